import Derived.Test.YtcdiehplbmkmeaaSortU4
import Derived.Test.YtcdiehplbmkmeaaQuotaP
import Derived.Test.YtcdiehplbmkmeaaOutS
set_option linter.unusedSectionVars false
set_option linter.unusedSimpArgs false
set_option linter.unusedVariables false
set_option maxRecDepth 10000
namespace Go.Proofs.Ytcdiehplbmkmeaa
open Go Go.Sc Go.Proofs
def za (l : LeaD) : Value := .agg l.cells.toArray
def zz (n : Nat) : Value := .int .u64 n
def z6 (n : Int) : Value := .int .i64 n
theorem zDH : KeyL Try.prog 9 Value.string := zGy (by kernel_rfl)
theorem zFQ : KeyL Try.prog 28 zz := zCm (by kernel_rfl)
theorem zCh : xo Try.prog 68 = some (9, 2) := by kernel_rfl
theorem zCa : xo Try.prog 69 = some (28, 73) := by kernel_rfl
theorem zB8 : x7 Try.prog 2 = some (z6 0) := by kernel_rfl
theorem zJh : x7 Try.prog 73 = some (za LeaD.zero) := by kernel_rfl
def jr (k : ByteArray) (kl : List (Nat × LeaD)) : Int := yN k (kl.map (·.2))
theorem zGi {k : ByteArray} {kl : List (Nat × LeaD)} {n : Int} (h : n = IntKind.i64.wrap (jr k kl - jr k [])) : n = z4 k kl := by
  rw [h]; simp [jr, yN, z4, xN]
theorem zFw {k : ByteArray} {kl todo q1 q2 : List (Nat × LeaD)} {i : Nat} {v : LeaD} {n : Int} (h : n = IntKind.i64.wrap (jr k kl - jr k todo)) (ht : todo = q1 ++ (i, v) :: q2) (hk : v.key = k) : IntKind.i64.wrap (n + v.amount) = IntKind.i64.wrap (jr k kl - jr k (q1 ++ q2)) := by
  rw [h, zG0, ht]; unfold jr; rw [zAi, if_pos hk]; congr 1; omega
theorem zHj {k : ByteArray} {kl todo q1 q2 : List (Nat × LeaD)} {i : Nat} {v : LeaD} {n : Int} (h : n = IntKind.i64.wrap (jr k kl - jr k todo)) (ht : todo = q1 ++ (i, v) :: q2) (hk : ¬ v.key = k) : n = IntKind.i64.wrap (jr k kl - jr k (q1 ++ q2)) := by
  rw [h, ht]; unfold jr; rw [zAi, if_neg hk]; congr 1; omega
theorem zEZ (k : ByteArray) (w : World) : Rets Try.prog 77 #[.string k] w fun u_ w' => u_ = .bool (decide (yz k)) ∧ Own w [] [] w' := by
  refine zh Try.func77 rfl Try.ntmps77 (Own.start w) ?_
  refine zB (zH rfl (zA (zB (zC rfl (zKb rfl rfl rfl (zC rfl (yZ (q := k ≠ (⟨#[]⟩ : ByteArray)) 3 2 [8, 7, 6] (((k.size : Nat) : Int) ≤ 64) rfl rfl rfl rfl rfl rfl trivial rfl (fun h1_2 => ?_) (fun g1_6 => ?_))))))))
  ·
   refine zV rfl (gT h1_2) (zC rfl (zV rfl (gT h1_2) (zFf (by kernel_rfl) rfl rfl (zV rfl (gT h1_2) (zAj rfl rfl rfl ?_)))))
   exact yi rfl (fun _ hw => hw)
  refine zH rfl (zA ?_)
  exact zR (z3 (v := .bool (decide ((k ≠ (⟨#[]⟩ : ByteArray)) ∧ (((k.size : Nat) : Int) ≤ 64)))) rfl rfl (fun w' hw => ⟨(by congr 1; exact decide_eq_decide.2 (by unfold yz; rw [zKH]; omega)), hw.drop⟩))
theorem zGv (n : Int) (w : World) : Rets Try.prog 78 #[Vi n] w fun u_ w' => u_ = .bool (decide (yG n)) ∧ Own w [] [] w' := by
  refine zh Try.func78 rfl Try.ntmps78 (Own.start w) ?_
  refine zB (zH rfl (zA (zB (zC rfl (yY rfl rfl rfl (zC rfl (yZ (q := 1 ≤ n) 2 2 [7, 6] (n ≤ 1099511627776) rfl rfl rfl rfl rfl rfl trivial rfl (fun h1_2 => ?_) (fun g1_5 => ?_))))))))
  ·
   refine zV rfl (gT h1_2) (zC rfl (zV rfl (gT h1_2) (zAj rfl rfl rfl ?_)))
   exact yi rfl (fun _ hw => hw)
  refine zH rfl (zA ?_)
  exact zR (z3 (v := .bool (decide ((1 ≤ n) ∧ (n ≤ 1099511627776)))) rfl rfl (fun w' hw => ⟨rfl, hw.drop⟩))
theorem jl {S : List Nat} (b bm lm : Nat) (now : Int) (cnt : Nat) (kl : List (Nat × LeaD)) (k : ByteArray) (w : World) (hin : Own w S [Res.row b 71 [.map (some bm), .map (some lm), Vi now, Vn cnt], Res.mp zz za lm kl] w) : Rets Try.prog 57 #[.pointer (some ⟨b, 0, none⟩), .string k] w fun u_ w' => ∃ (n : Int), u_ = Vi n ∧ n = z4 k kl ∧ Own w S [Res.row b 71 [.map (some bm), .map (some lm), Vi now, Vn cnt], Res.mp zz za lm kl] w' := by
  refine zh Try.func57 rfl Try.ntmps57 hin ?_
  refine zB (zH rfl (zA (zB (zH rfl (zA (zM (zB (zC rfl (yB rfl rfl (zW (o := 1) rfl rfl (zd 0 (v := .map (some lm)) rfl rfl rfl rfl (zC2 1 zCa rfl rfl rfl (fun r12 => ?_)))))))))))))
  refine zA (zS ?_)
  refine y4 (fun (todo : List (Nat × LeaD)) (n : Int) => [(1, .string k), (5, Vi n), (12, .pointer (some ⟨r12, 0, none⟩))]) (fun (todo : List (Nat × LeaD)) (n : Int) => n = IntKind.i64.wrap (jr k kl - jr k todo)) (fun (todo : List (Nat × LeaD)) (n : Int) => [Res.row b 71 [.map (some bm), .map (some lm), Vi now, Vn cnt], Res.rg zz za lm r12 kl todo]) (fun (todo : List (Nat × LeaD)) (n : Int) => todo.length) (fun w' hw => ⟨kl, 0, ⟨rfl, rfl, rfl, trivial⟩, (by rw [Int.sub_self]; decide), hw⟩) (fun todo n g hΦ => ?_)
  refine zB (zEY 1 rfl rfl rfl (fun hq0 => ?_) (fun q1 k v q2 hq1 => ?_))
  ·
   refine zl (vs := [.bool false]) rfl rfl rfl (zA (zM (xm rfl (yA rfl (zB (zC rfl (zH rfl (zA ?_))))))))
   exact zR (z3 (v := Vi n) rfl rfl (fun w' hw => ⟨n, rfl, zGi (hq0 ▸ hΦ), (Own.rgEnd 1 hw rfl)⟩))
  ·
   refine zl (vs := [.bool true, Vn k, .agg (LeaD.cells v).toArray]) rfl rfl rfl (zA (zM (zEN rfl (zL (zS (zB (zDO 1 rfl rfl rfl (zl (vs := [Vn k, .agg (LeaD.cells v).toArray]) rfl rfl rfl (yP (v := .agg #[Vn 0, Vn 0, .string (⟨#[]⟩ : ByteArray), Vi 0, Vi 0]) (by kernel_rfl) rfl (fun b7 => zu 2 rfl rfl rfl (yC rfl) rfl (zA (zB ?_))))))))))))
   refine zW (o := 2) rfl rfl (zd 2 (v := .string v.key) rfl rfl rfl rfl (zC rfl (zIb rfl rfl rfl (zA (zU rfl (fun c3 => ?_) (fun c3 => ?_))))))
   ·
    refine zg (zC rfl (zW (o := 3) rfl rfl (zd 2 (v := Vi v.amount) rfl rfl rfl rfl (zw (c := IntKind.i64.wrap (n + v.amount)) rfl rfl rfl rfl (zH rfl ?_)))))
    exact zf (fun w' hw => ⟨q1 ++ q2, IntKind.i64.wrap (n + v.amount), ⟨rfl, rfl, rfl, trivial⟩, zFw hΦ hq1 c3, hw.sel [0, 1] rfl (by decide), (by rw [hq1, List.length_append, List.length_append, List.length_cons]; omega)⟩)
   ·
    exact xS (fun w' hw => ⟨q1 ++ q2, n, ⟨rfl, rfl, rfl, trivial⟩, zHj hΦ hq1 c3, hw.sel [0, 1] rfl (by decide), (by rw [hq1, List.length_append, List.length_append, List.length_cons]; omega)⟩)
def jZ (kl : List (Nat × LeaD)) (s i : Nat) (x : LeaD) (e : Int) : Prop :=
  (e = 17 ∧ x = LeaD.zero ∧ ∀ l, zY i kl = some l → l.session ≠ s) ∨ (e = 0 ∧ zY i kl = some x ∧ x.session = s)
theorem zHt {kl : List (Nat × LeaD)} {s i : Nat} (h : (!(zY i kl).isSome) = true ∨ ((((zY i kl).getD LeaD.zero).session : Nat) : Int) ≠ ((s : Nat) : Int)) : jZ kl s i LeaD.zero 17 := by
  refine .inl ⟨rfl, rfl, fun l hl => ?_⟩
  rw [hl] at h
  rcases h with h | h
  · cases h
  · intro e; exact h (by rw [Option.getD_some, e])
theorem zGN {kl : List (Nat × LeaD)} {s i : Nat} (h : ¬ ((!(zY i kl).isSome) = true ∨ ((((zY i kl).getD LeaD.zero).session : Nat) : Int) ≠ ((s : Nat) : Int))) : jZ kl s i ((zY i kl).getD LeaD.zero) 0 := by
  cases hl : zY i kl with
  | none => rw [hl] at h; exact absurd (.inl rfl) h
  | some l =>
    rw [hl, Option.getD_some] at h
    exact .inr ⟨rfl, hl, Decidable.by_contra fun (q : ¬ l.session = s) => h (.inr fun e => q (by omega))⟩
theorem zC0 {kl : List (Nat × LeaD)} {s i : Nat} {x : LeaD} {e : Int} (h : jZ kl s i x e) (he : e ≠ 0) : e = 17 ∧ x = LeaD.zero ∧ ∀ l, zY i kl = some l → l.session ≠ s := by
  rcases h with h | h
  · exact h
  · exact absurd h.1 he
theorem zCZ {kl : List (Nat × LeaD)} {s i : Nat} {x : LeaD} {e : Int} (h : jZ kl s i x e) (he : ¬ e ≠ 0) : zY i kl = some x ∧ x.session = s := by
  rcases h with h | h
  · rw [h.1] at he; exact absurd (by decide) he
  · exact h.2
theorem zIB {kl : List (Nat × LeaD)} {s i : Nat} {x : LeaD} {e : Int} (h : jZ kl s i x e) (he : ¬ e = 0) : zDQ kl s i x e kl := by
  have := zC0 h he; exact .inl ⟨this.2.2, this.1, this.2.1, rfl⟩
theorem zGY {kl : List (Nat × LeaD)} {s i : Nat} {x : LeaD} {e : Int} (h : jZ kl s i x e) (he : e = 0) : zDQ kl s i x e (xt i kl) := by
  have := zCZ h (fun q => q he); exact .inr ⟨x, this.1, this.2, he, rfl, rfl⟩
theorem zFW {now : Int} {kb : List (ByteArray × Int)} {kl : List (Nat × LeaD)} {s i : Nat} {sp : Int} {x : LeaD} {e : Int} (hs : ¬ ¬ yG sp) (h : jZ kl s i x e) (he : e ≠ 0) : zAX now kb kl s i sp LeaD.zero e kl := by
  have := zC0 h he; exact .inr (.inl ⟨Decidable.not_not.1 hs, this.2.2, this.1, rfl, rfl⟩)
theorem zDZ {now : Int} {kb : List (ByteArray × Int)} {kl : List (Nat × LeaD)} {s i : Nat} {sp n : Int} {x : LeaD} {e : Int} (hs : ¬ ¬ yG sp) (h : jZ kl s i x e) (he : ¬ e ≠ 0) (hn : n = z4 x.key kl) (hc : (zY x.key kb).getD 0 < n) : zAX now kb kl s i sp LeaD.zero 16 kl := by
  have := zCZ h he; exact .inr (.inr ⟨Decidable.not_not.1 hs, x, this.1, this.2, .inl ⟨hn ▸ hc, rfl, rfl, rfl⟩⟩)
theorem zEa {now : Int} {kb : List (ByteArray × Int)} {kl : List (Nat × LeaD)} {s i : Nat} {sp n : Int} {x : LeaD} {e : Int} (hs : ¬ ¬ yG sp) (h : jZ kl s i x e) (he : ¬ e ≠ 0) (hn : n = z4 x.key kl) (hc : ¬ (zY x.key kb).getD 0 < n) : zAX now kb kl s i sp (xR x (now + sp)) 0 (yq i (xR x (now + sp)) kl) := by
  have := zCZ h he; exact .inr (.inr ⟨Decidable.not_not.1 hs, x, this.1, this.2, .inr ⟨by rw [hn] at hc; omega, rfl, rfl, rfl⟩⟩)
theorem zFi {S : List Nat} (b bm lm : Nat) (now : Int) (cnt : Nat) (kl : List (Nat × LeaD)) (s i : Nat) (w : World) (hin : Own w S [Res.row b 71 [.map (some bm), .map (some lm), Vi now, Vn cnt], Res.mp zz za lm kl] w) : Rets Try.prog 80 #[.pointer (some ⟨b, 0, none⟩), Vn s, Vn i] w fun u_ w' => ∃ (x : LeaD) (e : Int), u_ = .tuple #[.agg (LeaD.cells x).toArray, Vi e] ∧ jZ kl s i x e ∧ Own w S [Res.row b 71 [.map (some bm), .map (some lm), Vi now, Vn cnt], Res.mp zz za lm kl] w' := by
  refine zh Try.func80 rfl Try.ntmps80 hin ?_
  refine zB (yP (v := .agg #[Vn 0, Vn 0, .string (⟨#[]⟩ : ByteArray), Vi 0, Vi 0]) (by kernel_rfl) rfl (fun b6 => zH rfl (zA (zB (zC rfl (yB rfl rfl (zW (o := 1) rfl rfl (zd 0 (v := .map (some lm)) rfl rfl rfl rfl (zC rfl (zBJ (k := i) (kv := kl) (zv := LeaD.zero) zFQ zCa zJh rfl rfl (fun w' hw' => Own.holds hw' 1 _ rfl) rfl (zC rfl (zl (vs := [.agg (LeaD.cells ((zY i kl).getD LeaD.zero)).toArray, .bool ((zY i kl).isSome)]) rfl rfl rfl ?_))))))))))))
  refine zl (vs := [.agg (LeaD.cells ((zY i kl).getD LeaD.zero)).toArray, .bool ((zY i kl).isSome)]) rfl rfl rfl (yP (v := .agg #[Vn 0, Vn 0, .string (⟨#[]⟩ : ByteArray), Vi 0, Vi 0]) (by kernel_rfl) rfl (fun b8 => zu 3 rfl rfl rfl (yC rfl) rfl (zH rfl (zA (zM (zB (zC rfl (ja (b := (zY i kl).isSome) rfl rfl (zC rfl (xJ (q := (!((zY i kl).isSome)) = true) 4 2 [25, 24, 23, 22] (((((zY i kl).getD LeaD.zero).session : Nat) : Int) ≠ ((s : Nat) : Int)) rfl rfl (xO _) rfl rfl rfl trivial rfl (fun h2_2 => ?_) (fun g2_7 => ?_)))))))))))
  ·
   refine zV rfl (bF h2_2) (zW (o := 1) rfl rfl (zV rfl (bF h2_2) (zd 3 (v := Vn (((zY i kl).getD LeaD.zero).session)) rfl rfl rfl rfl (zV rfl (bF h2_2) (zC rfl (zV rfl (bF h2_2) (jW rfl rfl rfl ?_)))))))
   exact yi rfl (fun _ hw => hw)
  refine zA (zU rfl (fun c1 => ?_) (fun c1 => ?_))
  ·
   refine zB (yS (cs := [Vn 0, Vn 0, .string (⟨#[]⟩ : ByteArray), Vi 0, Vi 0]) (z := [Vn 0, Vn 0, .string (⟨#[]⟩ : ByteArray), Vi 0, Vi 0]) (pl := [(0, 1), (1, 1), (2, 1), (3, 1), (4, 1)]) (by kernel_rfl) (by kernel_rfl) rfl (zu 2 rfl rfl rfl (yC rfl) rfl (zH rfl (zA ?_))))
   exact zR (yW (cs := [Vn 0, Vn 0, .string (⟨#[]⟩ : ByteArray), Vi 0, Vi 0]) (v := Vi 17) rfl rfl rfl (by kernel_rfl) (Own.rowCells (i := 2) rfl) (fun w' hw => ⟨LeaD.zero, 17, rfl, zHt c1, hw.sel [0, 1] rfl (by decide)⟩))
  ·
   refine zL (zB (yk (cs := (LeaD.cells ((zY i kl).getD LeaD.zero))) 3 rfl rfl rfl (zu 2 rfl rfl rfl (yC rfl) rfl (zH rfl (zA ?_)))))
   exact zR (yW (cs := (LeaD.cells ((zY i kl).getD LeaD.zero))) (v := Vi 0) rfl rfl rfl (by kernel_rfl) (Own.rowCells (i := 2) rfl) (fun w' hw => ⟨(zY i kl).getD LeaD.zero, 0, rfl, zGN c1, hw.sel [0, 1] rfl (by decide)⟩))
theorem zJ8 (a c : Int) (w : World) (ha : 0 ≤ a ∧ a ≤ 9223372036854775807) (hc : -9223372036854775808 ≤ c ∧ c ≤ 9223372036854775807) : Rets Try.prog 88 #[Vi a, Vi c] w fun u_ w' => ∃ (n e : Int), u_ = .tuple #[Vi n, Vi e] ∧ ((9223372036854775807 < a + c ∧ e = 3 ∧ n = 0) ∨ (a + c ≤ 9223372036854775807 ∧ e = 0 ∧ n = a + c)) ∧ Own w [] [] w' := by
  refine zh Try.func88 rfl Try.ntmps88 (Own.start w) ?_
  refine zB (zH rfl (zH rfl (zA (zM (zB (zC rfl (xY rfl rfl rfl (zC rfl (yZ (q := 0 < c) 4 2 [12, 11, 10, 9] ((9223372036854775807 - c) < a) rfl rfl rfl rfl rfl rfl trivial rfl (fun h1_2 => ?_) (fun g1_7 => ?_))))))))))
  ·
   refine zV rfl (gT h1_2) (zC rfl (zV rfl (gT h1_2) (zC rfl (zV rfl (gT h1_2) (z9 rfl rfl (zt (by omega)) rfl (zV rfl (gT h1_2) (xY rfl rfl rfl ?_)))))))
   exact yi rfl (fun _ hw => hw)
  refine zC rfl (xJ (q := (0 < c) ∧ ((9223372036854775807 - c) < a)) 8 8 [22, 21, 20, 19, 18, 17, 16, 15] ((c < 0) ∧ (a < ((-9223372036854775808) - c))) rfl rfl rfl rfl rfl rfl trivial rfl (fun h1_8 => ?_) (fun g1_17 => ?_))
  ·
   refine zV rfl (gF h1_8) (zC rfl (zV rfl (gF h1_8) (yO rfl rfl rfl (zV rfl (gF h1_8) (zC rfl (yZ (q := c < 0) 4 11 [21, 20, 19, 18] (a < ((-9223372036854775808) - c)) rfl rfl rfl rfl rfl rfl ⟨_, rfl, rfl, gF h1_8⟩ rfl (fun h1_11 => ?_) (fun g1_16 => ?_)))))))
   ·
    refine zV rfl (gT h1_11) (zC rfl (zV rfl (gT h1_11) (zC rfl (zV rfl (gT h1_11) (z9 rfl rfl (zt (by omega)) rfl (zV rfl (gT h1_11) (yO rfl rfl rfl ?_)))))))
    exact yi rfl (fun _ hw => hw)
   exact yi rfl (fun _ hw => hw)
  refine zA (zU rfl (fun c1 => ?_) (fun c1 => ?_))
  ·
   refine zB (zH rfl (zH rfl (zA ?_)))
   exact zR (ya (v := Vi 0) (v' := Vi 3) rfl rfl rfl (fun w' hw => ⟨0, 3, rfl, .inl ⟨by omega, rfl, rfl⟩, hw.drop⟩))
  ·
   refine zL (zB (zC rfl (zC rfl (zw rfl rfl (zt (by omega)) rfl (zH rfl (zH rfl (zA ?_)))))))
   exact zR (ya (v := Vi (a + c)) (v' := Vi 0) rfl rfl rfl (fun w' hw => ⟨a + c, 0, rfl, .inr ⟨by omega, rfl, rfl⟩, hw.drop⟩))
theorem zH1 (v : Value) (l : List Int) (w : World) (hl : l.length = 2) (h0 : 0 ≤ zG l 0 ∧ zG l 0 ≤ 9223372036854775807) (h1 : -9223372036854775808 ≤ zG l 1 ∧ zG l 1 ≤ 9223372036854775807) (hv : Rd w [] (Res.sl v l.length (l.flatMap I1))) : Rets Try.prog 79 #[v] w fun u_ w' => ∃ (n e : Int), u_ = .tuple #[Vi n, Vi e] ∧ ((9223372036854775807 < zG l 0 + zG l 1 ∧ e = 3 ∧ n = 0) ∨ (zG l 0 + zG l 1 ≤ 9223372036854775807 ∧ e = 0 ∧ n = zG l 0 + zG l 1)) ∧ Own w [] [] w' := by
  refine zh Try.func79 rfl Try.ntmps79 (Own.start w) ?_
  refine zB (zH rfl (zH rfl (zA (zB (zH rfl (zA (zM (zB (zC rfl (yL (pR hv) rfl rfl (zC rfl (zA ?_))))))))))))
  refine zS ?_
  refine y4 (fun (k : Nat) (n : Int) => [(4, Vi n), (8, v), (9, Vj l.length), (10, Vj k)]) (fun (k : Nat) (n : Int) => k ≤ 2 ∧ ((k = 0 → n = 0) ∧ (k = 1 → n = zG l 0) ∧ (k = 2 → n = zG l 0 + zG l 1)) ∧ ((k < 2 → 0 ≤ n) ∧ n ≤ 9223372036854775807)) (fun (k : Nat) (n : Int) => []) (fun (k : Nat) (n : Int) => 2 - k) (fun w' hw => ⟨0, 0, ⟨rfl, rfl, rfl, rfl, trivial⟩, ⟨by omega, ⟨fun _ => rfl, by omega, by omega⟩, ⟨fun _ => by omega, by omega⟩⟩, hw⟩) (fun k n g hΦ => ?_)
  have hkl := hΦ.1
  have hkI := hΦ.2.1
  have hkn := hΦ.2.2
  refine zB (yO rfl rfl rfl (zA (zM (zU rfl (fun c1 => ?_) (fun c1 => ?_)))))
  ·
   have hk2 : k < 2 := by omega
   have hkx : (k = 0 → zG l k = zG l 0) ∧ (k = 1 → zG l k = zG l 1) := ⟨fun h => by rw [h], fun h => by rw [h]⟩
   have hkb : -9223372036854775808 ≤ zG l k ∧ zG l k ≤ 9223372036854775807 := by rcases (show k = 0 ∨ k = 1 by omega) with h | h <;> rw [h] <;> omega
   refine zL (zM (zS (zB (zD (pR hv) 1 k rfl rfl rfl (by omega) rfl (zN (pR hv) 1 k 0 (fun _ => rfl) rfl rfl (by omega) rfl rfl (zH rfl (zA (zB (zH rfl (zA (zB (zC rfl ?_))))))))))))
   refine zC rfl (zQ rfl rfl (fun w' hw => (zJ8 n (zG l k) w' ⟨hkn.1 hk2, hkn.2⟩ hkb).mono ?_))
   rintro _ w1 ⟨n1_, e2_, rfl, hf6_2, hO⟩
   refine (?_ : CL _ _ _ _ _ _ (Own w [] [])) w1 (hw.frame0 hO)
   refine zC rfl (zl (vs := [Vi n1_, Vi e2_]) rfl rfl rfl (zl (vs := [Vi n1_, Vi e2_]) rfl rfl rfl (zH rfl (zH rfl (zA (zB (zC rfl (jW rfl rfl rfl (zA (zU rfl (fun c2 => ?_) (fun c2 => ?_)))))))))))
   ·
    refine zB (zC rfl (zH rfl (zH rfl (zA ?_))))
    exact zR (ya (v := Vi 0) (v' := Vi e2_) rfl rfl rfl (fun w' hw => ⟨0, e2_, rfl, .inl ⟨((zBV hk2 hkI hkx hf6_2 h0 h1).1 c2).1, ((zBV hk2 hkI hkx hf6_2 h0 h1).1 c2).2, rfl⟩, hw.drop⟩))
   ·
    refine zL (zg (zw rfl rfl (zt (by omega)) rfl (zC rfl ?_)))
    exact zf (fun w' hw => ⟨k + 1, n1_, ⟨rfl, rfl, rfl, rfl, trivial⟩, ⟨by omega, (zBV hk2 hkI hkx hf6_2 h0 h1).2 c2⟩, hw, (by omega)⟩)
  ·
   refine yA rfl (zB (zC rfl (zH rfl (zH rfl (zA ?_)))))
   exact zR (ya (v := Vi n) (v' := Vi 0) rfl rfl rfl (fun w' hw => ⟨n, 0, rfl, .inr ⟨by have := hkI.2.2 (by omega); omega, rfl, hkI.2.2 (by omega)⟩, hw.drop⟩))
theorem zJe {S : List Nat} (b bm lm : Nat) (now : Int) (cnt : Nat) (kb : List (ByteArray × Int)) (kl : List (Nat × LeaD)) (k : ByteArray) (a : Int) (w : World) (hin : Own w S [Res.row b 71 [.map (some bm), .map (some lm), Vi now, Vn cnt], Res.mp Value.string z6 bm kb, Res.mp zz za lm kl] w) : Rets Try.prog 58 #[.pointer (some ⟨b, 0, none⟩), .string k, Vi a] w fun u_ w' => ∃ (n e : Int) (kb' : List (ByteArray × Int)), u_ = .tuple #[Vi n, Vi e] ∧ e = xq k a kb ∧ kb' = zBg k a kb ∧ (n = if e = 0 then z4 k kl else 0) ∧ Own w S [Res.row b 71 [.map (some bm), .map (some lm), Vi now, Vn cnt], Res.mp Value.string z6 bm kb', Res.mp zz za lm kl] w' := by
  refine zh Try.func58 rfl Try.ntmps58 hin ?_
  refine zB (zH rfl (zH rfl (zA (zM (zB (zC rfl (xc (by kernel_rfl) rfl rfl rfl (zC rfl (zV rfl rfl (zC rfl (zV rfl rfl (zQ rfl rfl (fun w' hw => ?_)))))))))))))
  refine (zEZ k w').mono ?_
  rintro _ w1 ⟨rfl, hO⟩
  refine (?_ : CL _ _ _ _ _ _ (Own w S [Res.row b 71 [.map (some bm), .map (some lm), Vi now, Vn cnt], Res.mp Value.string z6 bm kb, Res.mp zz za lm kl])) w1 (hw.frame0 hO)
  refine zV rfl rfl (k6 (q := yz k) rfl rfl (xu rfl rfl (zC rfl (xJ (q := ¬ (yz k)) 2 7 [19, 18] (a < 0) rfl rfl rfl rfl rfl rfl trivial rfl (fun h1_7 => ?_) (fun g1_10 => ?_)))))
  ·
   refine zV rfl (gF h1_7) (zC rfl (zV rfl (gF h1_7) (yO rfl rfl rfl ?_)))
   exact yi rfl (fun _ hw => hw)
  refine zA (zU rfl (fun c1 => ?_) (fun c1 => ?_))
  ·
   refine zB (zH rfl (zH rfl (zA ?_)))
   exact zR (ya (v := Vi 0) (v' := Vi 1) rfl rfl rfl (fun w' hw => ⟨0, 1, kb, rfl, (zBt c1).symm, zCk (zBt c1) (by decide), rfl, hw⟩))
  ·
   refine zL (zB (zC rfl (yB rfl rfl (zW (o := 0) rfl rfl (zd 0 (v := .map (some bm)) rfl rfl rfl rfl (zC rfl (zBJ (k := k) (kv := kb) (zv := 0) zDH zCh zB8 rfl rfl (fun w' hw' => Own.holds hw' 1 _ rfl) rfl (zC rfl (zl (vs := [Vi ((zY k kb).getD 0), .bool ((zY k kb).isSome)]) rfl rfl rfl (zl (vs := [Vi ((zY k kb).getD 0), .bool ((zY k kb).isSome)]) rfl rfl rfl (zH rfl (zH rfl ?_))))))))))))
   refine zA (zM (zS (zB (zC rfl (yr rfl rfl rfl (zH rfl (zA (zU rfl (fun c2 => ?_) (fun c2 => ?_)))))))))
   ·
    refine zg (zC rfl (yB rfl rfl (zW (o := 0) rfl rfl (zd 0 (v := .map (some bm)) rfl rfl rfl rfl (zC rfl (zCr 1 (k := k) zDH zCh rfl rfl rfl (zA (zB (zC rfl (zC rfl (zQ rfl rfl (fun w' hw => (jl b bm lm now cnt kl k w' (hw.give [0, 2] rfl (by decide))).mono ?_))))))))))))
    rintro _ w1 ⟨n1_, rfl, hf9_2, hO⟩
    refine (?_ : CL _ _ _ _ _ _ (Own w S [Res.mp Value.string z6 bm (xt k kb), Res.row b 71 [.map (some bm), .map (some lm), Vi now, Vn cnt], Res.mp zz za lm kl])) w1 (hw.frameL [0, 2] rfl hO)
    refine zH rfl (zH rfl (zA ?_))
    exact zR (ya (v := Vi n1_) (v' := Vi 0) rfl rfl rfl (fun w' hw => ⟨n1_, 0, xt k kb, rfl, (zBw c1 c2).symm, zF8 (zBw c1 c2) c2, hf9_2, hw.sel [1, 0, 2] rfl (by decide)⟩))
   ·
    refine zB (zC rfl (ja (b := (zY k kb).isSome) rfl rfl (zC rfl (yZ (q := (!((zY k kb).isSome)) = true) 6 2 [53, 52, 51, 50, 49, 48] (64 ≤ ((kb.length : Nat) : Int)) rfl rfl (xO _) rfl rfl rfl trivial rfl (fun h7_2 => ?_) (fun g7_9 => ?_)))))
    ·
     refine zV rfl (bT h7_2) (zC rfl (zV rfl (bT h7_2) (yB rfl rfl (zV rfl (bT h7_2) (zW (o := 0) rfl rfl (zV rfl (bT h7_2) (zd 0 (v := .map (some bm)) rfl rfl rfl rfl (zV rfl (bT h7_2) (zCU Value.string z6 (kv := kb) zCh rfl (fun w' hw' => Own.holds hw' 1 _ rfl) rfl (zV rfl (bT h7_2) (yY rfl rfl rfl ?_)))))))))))
     exact yi rfl (fun _ hw => hw)
    refine zH rfl (zA (zU rfl (fun c3 => ?_) (fun c3 => ?_)))
    ·
     refine zB (zH rfl (zH rfl (zA ?_)))
     exact zR (ya (v := Vi 0) (v' := Vi 7) rfl rfl rfl (fun w' hw => ⟨0, 7, kb, rfl, (zBY c1 c2 c3).symm, zCk (zBY c1 c2 c3) (by decide), rfl, hw⟩))
    ·
     refine zg (zC rfl (yB rfl rfl (zW (o := 0) rfl rfl (zd 0 (v := .map (some bm)) rfl rfl rfl rfl (zC rfl (zC rfl (zAZ 1 (k := k) (v := a) zDH zCh rfl rfl rfl rfl (zA (zB (zC rfl (zC rfl (zQ rfl rfl (fun w' hw => ?_)))))))))))))
     refine (jl b bm lm now cnt kl k w' (hw.give [0, 2] rfl (by decide))).mono ?_
     rintro _ w1 ⟨n2_, rfl, hf9_2, hO⟩
     refine (?_ : CL _ _ _ _ _ _ (Own w S [Res.mp Value.string z6 bm (yq k a kb), Res.row b 71 [.map (some bm), .map (some lm), Vi now, Vn cnt], Res.mp zz za lm kl])) w1 (hw.frameL [0, 2] rfl hO)
     refine zH rfl (zH rfl (zA ?_))
     exact zR (ya (v := Vi n2_) (v' := Vi 0) rfl rfl rfl (fun w' hw => ⟨n2_, 0, yq k a kb, rfl, (zBr c1 c3).symm, zF6 (zBr c1 c3) c2, hf9_2, hw.sel [1, 0, 2] rfl (by decide)⟩))
theorem zHI {S : List Nat} (b bm lm : Nat) (now : Int) (cnt : Nat) (kb : List (ByteArray × Int)) (kl : List (Nat × LeaD)) (k : ByteArray) (w : World) (hin : Own w S [Res.row b 71 [.map (some bm), .map (some lm), Vi now, Vn cnt], Res.mp Value.string z6 bm kb, Res.mp zz za lm kl] w) : Rets Try.prog 31 #[.pointer (some ⟨b, 0, none⟩), .string k] w fun u_ w' => ∃ (n : Int), u_ = .tuple #[Vi ((zY k kb).getD 0), Vi n] ∧ n = z4 k kl ∧ Own w S [Res.row b 71 [.map (some bm), .map (some lm), Vi now, Vn cnt], Res.mp Value.string z6 bm kb, Res.mp zz za lm kl] w' := by
  refine zh Try.func31 rfl Try.ntmps31 hin ?_
  refine zB (zH rfl (zH rfl (zA (zM (zB (zC rfl (xc (by kernel_rfl) rfl rfl rfl (zA (xm rfl (zL (zM (zX [1] rfl (by decide) (by kernel_rfl) (fun w' hw hS => ?_)))))))))))))
  refine zE 0 rfl (zJ) hS (zE 1 rfl (zr rfl) hS (zE 2 rfl (zk (o := 0) rfl) hS (zE 4 rfl (zJ) hS (zE 6 rfl (zJ) hS (zE 7 rfl (zJ) hS (zT 3 8 ?_ ?_))))))
  ·
   refine zP 3 rfl hw (zd 0 (v := .map (some bm)) rfl rfl rfl rfl (zF [1] rfl (by decide) (fun w' hw hS => zE 5 rfl (zEj (k := k) (kv := kb) (zv := 0) zDH zCh zB8 rfl rfl (fun w' hw' => Own.holds hw' 0 _ rfl)) hS (zZ 8 rfl hw (zQ rfl rfl (fun w' hw => (jl b bm lm now cnt kl k w' (hw.give [0, 2] rfl (by decide))).mono ?_))))))
   rintro _ w1 ⟨n1_, rfl, hf3_8, hO⟩
   refine (?_ : CL _ _ _ _ _ _ (Own w S [Res.mp Value.string z6 bm kb, Res.row b 71 [.map (some bm), .map (some lm), Vi now, Vn cnt], Res.mp zz za lm kl])) w1 (hw.frameL [0, 2] rfl hO)
   refine zF [0] rfl (by decide) (fun w' hw hS => zE 9 rfl (xW) hS (zE 10 rfl (xW) hS (zK ?_)))
   refine (?_ : C _ _ _ _ _ _ _ (Own w S [Res.mp Value.string z6 bm kb, Res.row b 71 [.map (some bm), .map (some lm), Vi now, Vn cnt], Res.mp zz za lm kl])) _ hw
   exact zR (ya (v := Vi ((zY k kb).getD 0)) (v' := Vi n1_) rfl rfl rfl (fun w' hw => ⟨n1_, rfl, hf3_8, hw.sel [1, 0, 2] rfl (by decide)⟩))
  ·
   refine zP 8 rfl hw (zQ rfl rfl (fun w' hw => (jl b bm lm now cnt kl k w' (hw.give [0, 2] rfl (by decide))).mono ?_))
   rintro _ w1 ⟨n2_, rfl, hf3_8, hO⟩
   refine (?_ : CL _ _ _ _ _ _ (Own w S [Res.mp Value.string z6 bm kb, Res.row b 71 [.map (some bm), .map (some lm), Vi now, Vn cnt], Res.mp zz za lm kl])) w1 (hw.frameL [0, 2] rfl hO)
   refine zF [0] rfl (by decide) (fun w' hw hS => zZ 3 rfl hw (zd 1 (v := .map (some bm)) rfl rfl rfl rfl (zF [0] rfl (by decide) (fun w' hw hS => zE 5 rfl (zEj (k := k) (kv := kb) (zv := 0) zDH zCh zB8 rfl rfl (fun w' hw' => Own.holds hw' 0 _ rfl)) hS (zE 9 rfl (xW) hS (zE 10 rfl (xW) hS (zK ?_)))))))
   refine (?_ : C _ _ _ _ _ _ _ (Own w S [Res.mp Value.string z6 bm kb, Res.row b 71 [.map (some bm), .map (some lm), Vi now, Vn cnt], Res.mp zz za lm kl])) _ hw
   exact zR (ya (v := Vi ((zY k kb).getD 0)) (v' := Vi n2_) rfl rfl rfl (fun w' hw => ⟨n2_, rfl, hf3_8, hw.sel [1, 0, 2] rfl (by decide)⟩))
theorem zJt (w : World) : Rets Try.prog 19 #[] w fun u_ w' => ∃ (b bm lm : Nat), u_ = .pointer (some ⟨b, 0, none⟩) ∧ Own w [] [Res.row b 71 [.map (some bm), .map (some lm), Vi 0, Vn 0], Res.mp Value.string z6 bm ([] : List (ByteArray × Int)), Res.mp zz za lm ([] : List (Nat × LeaD))] w' := by
  refine zh Try.func19 rfl Try.ntmps19 (Own.start w) ?_
  refine zB (zH rfl (zA (zB (j6 (α := Int) Value.string z6 rfl rfl (fun m1 => j6 (α := LeaD) zz za rfl rfl (fun m2 => yS (cs := [.map (some m1), .map (some m2), Vi 0, Vn 0]) (z := [.map none, .map none, Vi 0, Vn 0]) (pl := [(0, 1), (1, 1), (2, 1), (3, 1)]) (by kernel_rfl) (by kernel_rfl) rfl (yh rfl rfl (fun b4 => zH rfl (zA ?_)))))))))
  exact zR (z3 (v := .pointer (some ⟨b4, 0, none⟩)) rfl rfl (fun w' hw => ⟨b4, m1, m2, rfl, hw.sel [2, 0, 1] rfl (by decide)⟩))
theorem zIt {S : List Nat} (b bm lm : Nat) (now : Int) (cnt : Nat) (kb : List (ByteArray × Int)) (kl : List (Nat × LeaD)) (s : Nat) (k : ByteArray) (a sp : Int) (w : World) (hlen : 0 ≤ z4 k kl ∧ z4 k kl ≤ 9223372036854775807) (ha : ye a) (ht : 0 ≤ now ∧ now ≤ 2305843009213693952) (hc : cnt ≤ 1000000000) (hin : Own w S [Res.row b 71 [.map (some bm), .map (some lm), Vi now, Vn cnt], Res.mp Value.string z6 bm kb, Res.mp zz za lm kl] w) : Rets Try.prog 60 #[.pointer (some ⟨b, 0, none⟩), Vn s, .string k, Vi a, Vi sp] w fun u_ w' => ∃ (x : LeaD) (e : Int) (cnt' : Nat) (kl' : List (Nat × LeaD)), u_ = .tuple #[.agg (LeaD.cells x).toArray, Vi e] ∧ e = xH s k a sp kb kl ∧ x = jA e cnt s k a (now + sp) ∧ cnt' = zAc e cnt ∧ kl' = zEe e x kl ∧ Own w S [Res.row b 71 [.map (some bm), .map (some lm), Vi now, Vn cnt'], Res.mp Value.string z6 bm kb, Res.mp zz za lm kl'] w' := by
  refine zh Try.func60 rfl Try.ntmps60 hin ?_
  refine zB (yP (v := .agg #[Vn 0, Vn 0, .string (⟨#[]⟩ : ByteArray), Vi 0, Vi 0]) (by kernel_rfl) rfl (fun b10 => zH rfl (zA (zM (zB (zC rfl (xc (by kernel_rfl) rfl rfl rfl (zC rfl (zV rfl rfl (zC rfl (zV rfl rfl (yr rfl rfl rfl ?_))))))))))))
  refine xu rfl rfl (zC rfl (xJ (q := ((s : Nat) : Int) = ((0 : Nat) : Int)) 3 6 [26, 25, 24] (¬ (yz k)) rfl rfl rfl rfl rfl rfl trivial rfl (fun h1_6 => ?_) (fun g1_10 => ?_)))
  ·
   refine zV rfl (gF h1_6) (zC rfl (zV rfl (gF h1_6) (zQ rfl rfl (fun w' hw => (zEZ k w').mono ?_))))
   rintro _ w1 ⟨rfl, hO⟩
   refine (?_ : CL _ _ _ _ _ _ (Own w S [Res.row b 71 [.map (some bm), .map (some lm), Vi now, Vn cnt], Res.mp Value.string z6 bm kb, Res.mp zz za lm kl, Res.row b10 73 [Vn 0, Vn 0, .string (⟨#[]⟩ : ByteArray), Vi 0, Vi 0]])) w1 (hw.frame0 hO)
   refine zV rfl (gF h1_6) (k6 (q := yz k) rfl rfl ?_)
   exact yi rfl (fun _ hw => hw)
  refine zC rfl (xJ (q := (((s : Nat) : Int) = ((0 : Nat) : Int)) ∨ (¬ (yz k))) 2 11 [30, 29] (a < 1) rfl rfl rfl rfl rfl rfl trivial rfl (fun h1_11 => ?_) (fun g1_14 => ?_))
  ·
   refine zV rfl (gF h1_11) (zC rfl (zV rfl (gF h1_11) (yO rfl rfl rfl ?_)))
   exact yi rfl (fun _ hw => hw)
  refine zC rfl (xJ (q := ((((s : Nat) : Int) = ((0 : Nat) : Int)) ∨ (¬ (yz k))) ∨ (a < 1)) 3 15 [35, 34, 33] (¬ (yG sp)) rfl rfl rfl rfl rfl rfl trivial rfl (fun h1_15 => ?_) (fun g1_19 => ?_))
  ·
   refine zV rfl (gF h1_15) (zC rfl (zV rfl (gF h1_15) (zQ rfl rfl (fun w' hw => (zGv sp w').mono ?_))))
   rintro _ w1 ⟨rfl, hO⟩
   refine (?_ : CL _ _ _ _ _ _ (Own w S [Res.row b 71 [.map (some bm), .map (some lm), Vi now, Vn cnt], Res.mp Value.string z6 bm kb, Res.mp zz za lm kl, Res.row b10 73 [Vn 0, Vn 0, .string (⟨#[]⟩ : ByteArray), Vi 0, Vi 0]])) w1 (hw.frame0 hO)
   refine zV rfl (gF h1_15) (k6 (q := yG sp) rfl rfl ?_)
   exact yi rfl (fun _ hw => hw)
  refine zA (zU rfl (fun c1 => ?_) (fun c1 => ?_))
  ·
   refine zB (yS (cs := [Vn 0, Vn 0, .string (⟨#[]⟩ : ByteArray), Vi 0, Vi 0]) (z := [Vn 0, Vn 0, .string (⟨#[]⟩ : ByteArray), Vi 0, Vi 0]) (pl := [(0, 1), (1, 1), (2, 1), (3, 1), (4, 1)]) (by kernel_rfl) (by kernel_rfl) rfl (zu 3 rfl rfl rfl (yC rfl) rfl (zH rfl (zA ?_))))
   exact zR (yW (cs := [Vn 0, Vn 0, .string (⟨#[]⟩ : ByteArray), Vi 0, Vi 0]) (v := Vi 1) rfl rfl rfl (by kernel_rfl) (Own.rowCells (i := 3) rfl) (fun w' hw => ⟨LeaD.zero, 1, cnt, kl, rfl, (zIJ (larg.1 c1)).symm, rfl, rfl, rfl, hw.sel [0, 1, 2] rfl (by decide)⟩))
  ·
   have hla : ¬ y6 s k a sp := fun q => c1 (larg.2 q)
   have hsp : yG sp := Decidable.by_contra fun q => c1 (.inr q)
   have ha1 : 1 ≤ a := Int.not_lt.1 fun q => c1 (.inl (.inr q))
   unfold yG at hsp
   refine zL (zB (zC rfl (yB rfl rfl (zW (o := 0) rfl rfl (zd 0 (v := .map (some bm)) rfl rfl rfl rfl (zC rfl (zBJ (k := k) (kv := kb) (zv := 0) zDH zCh zB8 rfl rfl (fun w' hw' => Own.holds hw' 1 _ rfl) rfl (zC rfl (zl (vs := [Vi ((zY k kb).getD 0), .bool ((zY k kb).isSome)]) rfl rfl rfl (zl (vs := [Vi ((zY k kb).getD 0), .bool ((zY k kb).isSome)]) rfl rfl rfl (zH rfl (zH rfl ?_))))))))))))
   refine zA (zM (zB (zC rfl (ja (b := (zY k kb).isSome) rfl rfl (zA (j8 rfl (fun c2 => ?_) (fun c2 => ?_)))))))
   ·
    refine zB (yS (cs := [Vn 0, Vn 0, .string (⟨#[]⟩ : ByteArray), Vi 0, Vi 0]) (z := [Vn 0, Vn 0, .string (⟨#[]⟩ : ByteArray), Vi 0, Vi 0]) (pl := [(0, 1), (1, 1), (2, 1), (3, 1), (4, 1)]) (by kernel_rfl) (by kernel_rfl) rfl (zu 3 rfl rfl rfl (yC rfl) rfl (zH rfl (zA ?_))))
    exact zR (yW (cs := [Vn 0, Vn 0, .string (⟨#[]⟩ : ByteArray), Vi 0, Vi 0]) (v := Vi 8) rfl rfl rfl (by kernel_rfl) (Own.rowCells (i := 3) rfl) (fun w' hw => ⟨LeaD.zero, 8, cnt, kl, rfl, (zJo hla c2).symm, rfl, rfl, rfl, hw.sel [0, 1, 2] rfl (by decide)⟩))
   ·
    have hc2 : ¬ (!(zY k kb).isSome) = true := by rw [c2]; decide
    refine zL (zB (zC rfl (zC rfl (zQ rfl rfl (fun w' hw => (jl b bm lm now cnt kl k w' (hw.give [0, 2] rfl (by decide))).mono ?_)))))
    rintro _ w1 ⟨n1_, rfl, hf6_2, hO⟩
    refine (?_ : CL _ _ _ _ _ _ (Own w S [Res.mp Value.string z6 bm kb, Res.row b10 73 [Vn 0, Vn 0, .string (⟨#[]⟩ : ByteArray), Vi 0, Vi 0], Res.row b 71 [.map (some bm), .map (some lm), Vi now, Vn cnt], Res.mp zz za lm kl])) w1 (hw.frameL [0, 2] rfl hO)
    refine zC rfl (yg (e := 2) (sz := 1) (vs := [Vi n1_, Vi a]) (by kernel_rfl) rfl rfl (by simp [Value.cells]) (by decide) rfl (fun b55 => zQ rfl rfl (fun w' hw => (zH1 (.slice (some ⟨b55, 0, none⟩) 2 2) [n1_, a] w' rfl (by show 0 ≤ n1_ ∧ n1_ ≤ _; rw [hf6_2]; exact hlen) (by show _ ≤ a ∧ a ≤ _; exact ⟨by omega, ha.2⟩) (hw.rdVec0 4 rfl)).mono ?_)))
    rintro _ w1 ⟨n2_, e3_, rfl, hf6_5, hO⟩
    have hsum := zF0 hf6_5 hf6_2
    refine (?_ : CL _ _ _ _ _ _ (Own w S [Res.mp Value.string z6 bm kb, Res.row b10 73 [Vn 0, Vn 0, .string (⟨#[]⟩ : ByteArray), Vi 0, Vi 0], Res.row b 71 [.map (some bm), .map (some lm), Vi now, Vn cnt], Res.mp zz za lm kl, Res.vec 2 1 (.slice (some ⟨b55, 0, none⟩) 2 2) [n1_, a].length ([n1_, a].flatMap I1)])) w1 (hw.frame0 hO)
    refine zC rfl (zl (vs := [Vi n2_, Vi e3_]) rfl rfl rfl (zl (vs := [Vi n2_, Vi e3_]) rfl rfl rfl (zH rfl (zH rfl (zA (zM (zS (zB (zC rfl (jW rfl rfl rfl (zH rfl (zA ?_))))))))))))
    refine zU rfl (fun c3 => ?_) (fun c3 => ?_)
    ·
     refine zB (yS (cs := [Vn 0, Vn 0, .string (⟨#[]⟩ : ByteArray), Vi 0, Vi 0]) (z := [Vn 0, Vn 0, .string (⟨#[]⟩ : ByteArray), Vi 0, Vi 0]) (pl := [(0, 1), (1, 1), (2, 1), (3, 1), (4, 1)]) (by kernel_rfl) (by kernel_rfl) rfl (zC rfl (zu 1 rfl rfl rfl (yC rfl) rfl (zH rfl (zA ?_)))))
     exact zR (yW (cs := [Vn 0, Vn 0, .string (⟨#[]⟩ : ByteArray), Vi 0, Vi 0]) (v := Vi e3_) rfl rfl rfl (by kernel_rfl) (Own.rowCells (i := 1) rfl) (fun w' hw => ⟨LeaD.zero, e3_, cnt, kl, rfl, (by rw [(jC hsum c3).2]; exact (zJ1 hla hc2 (jC hsum c3).1).symm), (by rw [(jC hsum c3).2]; rfl), (by rw [(jC hsum c3).2]; rfl), (by rw [(jC hsum c3).2]; rfl), hw.sel [2, 0, 3] rfl (by decide)⟩))
    ·
     refine zB (zC rfl (zC rfl (xY rfl rfl rfl (zH rfl (zA (zU rfl (fun c4 => ?_) (fun c4 => ?_)))))))
     ·
      refine zB (yS (cs := [Vn 0, Vn 0, .string (⟨#[]⟩ : ByteArray), Vi 0, Vi 0]) (z := [Vn 0, Vn 0, .string (⟨#[]⟩ : ByteArray), Vi 0, Vi 0]) (pl := [(0, 1), (1, 1), (2, 1), (3, 1), (4, 1)]) (by kernel_rfl) (by kernel_rfl) rfl (zu 1 rfl rfl rfl (yC rfl) rfl (zH rfl (zA ?_))))
      exact zR (yW (cs := [Vn 0, Vn 0, .string (⟨#[]⟩ : ByteArray), Vi 0, Vi 0]) (v := Vi 16) rfl rfl rfl (by kernel_rfl) (Own.rowCells (i := 1) rfl) (fun w' hw => ⟨LeaD.zero, 16, cnt, kl, rfl, (zJK hla hc2 (kT hsum c3).1 (by rw [← (kT hsum c3).2]; exact c4)).symm, rfl, rfl, rfl, hw.sel [2, 0, 3] rfl (by decide)⟩))
     ·
      refine zB (zC rfl (yB rfl rfl (zW (o := 1) rfl rfl (zd 2 (v := .map (some lm)) rfl rfl rfl rfl (zCU zz za (kv := kl) zCa rfl (fun w' hw' => Own.holds hw' 3 _ rfl) rfl (yY rfl rfl rfl (zH rfl (zA (zU rfl (fun c5 => ?_) (fun c5 => ?_))))))))))
      ·
       refine zB (yS (cs := [Vn 0, Vn 0, .string (⟨#[]⟩ : ByteArray), Vi 0, Vi 0]) (z := [Vn 0, Vn 0, .string (⟨#[]⟩ : ByteArray), Vi 0, Vi 0]) (pl := [(0, 1), (1, 1), (2, 1), (3, 1), (4, 1)]) (by kernel_rfl) (by kernel_rfl) rfl (zu 1 rfl rfl rfl (yC rfl) rfl (zH rfl (zA ?_))))
       exact zR (yW (cs := [Vn 0, Vn 0, .string (⟨#[]⟩ : ByteArray), Vi 0, Vi 0]) (v := Vi 7) rfl rfl rfl (by kernel_rfl) (Own.rowCells (i := 1) rfl) (fun w' hw => ⟨LeaD.zero, 7, cnt, kl, rfl, (zKe hla hc2 (kT hsum c3).1 (by rw [← (kT hsum c3).2]; exact c4) c5).symm, rfl, rfl, rfl, hw.sel [2, 0, 3] rfl (by decide)⟩))
      ·
       refine zL (zB (zC rfl (yB rfl rfl (zW (o := 3) rfl rfl (zd 2 (v := Vn cnt) rfl rfl rfl rfl (zw rfl rfl (zCq (by omega)) rfl (yB rfl rfl (zW (o := 3) rfl rfl (zAb (cs := [.map (some bm), .map (some lm), Vi now, Vn cnt]) 2 rfl rfl rfl rfl rfl (zA (zM (zX [0, 1, 2, 3, 4] rfl (by decide) (by kernel_rfl) (fun w' hw hS => ?_)))))))))))))
       refine zE 0 rfl (zJ) hS (zE 1 rfl (zr rfl) hS (zE 2 rfl (zk (o := 3) rfl) hS (zE 3 rfl (zp 2 (v := Vn (cnt + 1)) rfl rfl rfl) hS (zE 4 rfl (zJ) hS (zE 5 rfl (zJ) hS (zE 6 rfl (zJ) hS (zE 7 rfl (zJ) hS (zE 8 rfl (zr rfl) hS (zE 9 rfl (zk (o := 2) rfl) hS (zE 10 rfl (zp 2 (v := Vi now) rfl rfl rfl) hS (zE 11 rfl (zJ) hS (zE 12 rfl (xn rfl rfl (zt (by omega))) hS ?_))))))))))))
       refine zE 13 rfl (zEq (cs := [Vn (cnt + 1), Vn s, .string k, Vi a, Vi (now + sp)]) (z := [Vn 0, Vn 0, .string (⟨#[]⟩ : ByteArray), Vi 0, Vi 0]) (pl := [(0, 1), (1, 1), (2, 1), (3, 1), (4, 1)]) (by kernel_rfl) (by kernel_rfl)) hS (zZ 14 rfl hw (yP (v := .agg #[Vn 0, Vn 0, .string (⟨#[]⟩ : ByteArray), Vi 0, Vi 0]) (by kernel_rfl) rfl (fun b16 => zF [0, 1, 2, 3, 4] rfl (by decide) (fun w' hw hS => zZ 15 rfl hw (zu 5 rfl rfl rfl (yC rfl) rfl (zF [0, 1, 2, 3, 4] rfl (by decide) (fun w' hw hS => zK ?_)))))))
       refine (?_ : C _ _ _ _ _ _ _ (Own w S [Res.mp Value.string z6 bm kb, Res.row b10 73 [Vn 0, Vn 0, .string (⟨#[]⟩ : ByteArray), Vi 0, Vi 0], Res.row b 71 [.map (some bm), .map (some lm), Vi now, Vn (cnt + 1)], Res.mp zz za lm kl, Res.vec 2 1 (.slice (some ⟨b55, 0, none⟩) 2 2) [n1_, a].length ([n1_, a].flatMap I1), Res.row b16 73 [Vn (cnt + 1), Vn s, .string k, Vi a, Vi (now + sp)]])) _ hw
       refine zM (zX [0, 1, 2, 4, 5] rfl (by decide) (by kernel_rfl) (fun w' hw hS => zE 0 rfl (zJ) hS (zE 1 rfl (zr rfl) hS (zE 2 rfl (zk (o := 1) rfl) hS (zE 3 rfl (zp 2 (v := .map (some lm)) rfl rfl rfl) hS (zE 4 rfl (zk (o := 0) rfl) hS (zE 5 rfl (zp 4 (v := Vn (cnt + 1)) rfl rfl rfl) hS (zE 6 rfl (zAz (cs := [Vn (cnt + 1), Vn s, .string k, Vi a, Vi (now + sp)]) 4 rfl rfl) hS (zZ 7 rfl hw (zAZ 3 (k := cnt + 1) (v := ({ id := cnt + 1, session := s, key := k, amount := a, until_ := now + sp } : LeaD)) zFQ zCa rfl rfl rfl rfl (zF [0, 1, 2, 4, 5] rfl (by decide) (fun w' hw hS => zK ?_))))))))))))
       refine (?_ : C _ _ _ _ _ _ _ (Own w S [Res.mp Value.string z6 bm kb, Res.row b10 73 [Vn 0, Vn 0, .string (⟨#[]⟩ : ByteArray), Vi 0, Vi 0], Res.row b 71 [.map (some bm), .map (some lm), Vi now, Vn (cnt + 1)], Res.mp zz za lm (yq (cnt + 1) ({ id := cnt + 1, session := s, key := k, amount := a, until_ := now + sp } : LeaD) kl), Res.vec 2 1 (.slice (some ⟨b55, 0, none⟩) 2 2) [n1_, a].length ([n1_, a].flatMap I1), Res.row b16 73 [Vn (cnt + 1), Vn s, .string k, Vi a, Vi (now + sp)]])) _ hw
       refine zB (yk (cs := [Vn (cnt + 1), Vn s, .string k, Vi a, Vi (now + sp)]) 5 rfl rfl rfl (zu 1 rfl rfl rfl (yC rfl) rfl (zH rfl (zA ?_))))
       exact zR (yW (cs := [Vn (cnt + 1), Vn s, .string k, Vi a, Vi (now + sp)]) (v := Vi 0) rfl rfl rfl (by kernel_rfl) (Own.rowCells (i := 1) rfl) (fun w' hw => ⟨⟨cnt + 1, s, k, a, now + sp⟩, 0, cnt + 1, yq (cnt + 1) ⟨cnt + 1, s, k, a, now + sp⟩ kl, rfl, (zKB hla hc2 (kT hsum c3).1 (by rw [← (kT hsum c3).2]; exact c4) c5).symm, rfl, rfl, rfl, hw.sel [2, 0, 3] rfl (by decide)⟩))
theorem zHF {S : List Nat} (b bm lm : Nat) (now : Int) (cnt : Nat) (kb : List (ByteArray × Int)) (kl : List (Nat × LeaD)) (s i : Nat) (sp : Int) (w : World) (ht : 0 ≤ now ∧ now ≤ 2305843009213693952) (hin : Own w S [Res.row b 71 [.map (some bm), .map (some lm), Vi now, Vn cnt], Res.mp Value.string z6 bm kb, Res.mp zz za lm kl] w) : Rets Try.prog 61 #[.pointer (some ⟨b, 0, none⟩), Vn s, Vn i, Vi sp] w fun u_ w' => ∃ (x : LeaD) (e : Int) (kl' : List (Nat × LeaD)), u_ = .tuple #[.agg (LeaD.cells x).toArray, Vi e] ∧ zAX now kb kl s i sp x e kl' ∧ Own w S [Res.row b 71 [.map (some bm), .map (some lm), Vi now, Vn cnt], Res.mp Value.string z6 bm kb, Res.mp zz za lm kl'] w' := by
  refine zh Try.func61 rfl Try.ntmps61 hin ?_
  refine zB (yP (v := .agg #[Vn 0, Vn 0, .string (⟨#[]⟩ : ByteArray), Vi 0, Vi 0]) (by kernel_rfl) rfl (fun b8 => zH rfl (zA (zM (zB (zC rfl (xc (by kernel_rfl) rfl rfl rfl (zC rfl (zV rfl rfl (zC rfl (zV rfl rfl (zQ rfl rfl (fun w' hw => ?_)))))))))))))
  refine (zGv sp w').mono ?_
  rintro _ w1 ⟨rfl, hO⟩
  refine (?_ : CL _ _ _ _ _ _ (Own w S [Res.row b 71 [.map (some bm), .map (some lm), Vi now, Vn cnt], Res.mp Value.string z6 bm kb, Res.mp zz za lm kl, Res.row b8 73 [Vn 0, Vn 0, .string (⟨#[]⟩ : ByteArray), Vi 0, Vi 0]])) w1 (hw.frame0 hO)
  refine zV rfl rfl (k6 (q := yG sp) rfl rfl (xu rfl rfl (zA (zU rfl (fun c1 => ?_) (fun c1 => ?_)))))
  ·
   refine zB (yS (cs := [Vn 0, Vn 0, .string (⟨#[]⟩ : ByteArray), Vi 0, Vi 0]) (z := [Vn 0, Vn 0, .string (⟨#[]⟩ : ByteArray), Vi 0, Vi 0]) (pl := [(0, 1), (1, 1), (2, 1), (3, 1), (4, 1)]) (by kernel_rfl) (by kernel_rfl) rfl (zu 3 rfl rfl rfl (yC rfl) rfl (zH rfl (zA ?_))))
   exact zR (yW (cs := [Vn 0, Vn 0, .string (⟨#[]⟩ : ByteArray), Vi 0, Vi 0]) (v := Vi 1) rfl rfl rfl (by kernel_rfl) (Own.rowCells (i := 3) rfl) (fun w' hw => ⟨LeaD.zero, 1, kl, rfl, .inl ⟨c1, rfl, rfl, rfl⟩, hw.sel [0, 1, 2] rfl (by decide)⟩))
  ·
   have hsp : 1 ≤ sp ∧ sp ≤ 1099511627776 := Decidable.not_not.1 c1
   refine zL (zB (zC rfl (zC rfl (zC rfl (zQ rfl rfl (fun w' hw => (zFi b bm lm now cnt kl s i w' (hw.give [0, 2] rfl (by decide))).mono ?_))))))
   rintro _ w1 ⟨x1_, e2_, rfl, hf3_3, hO⟩
   refine (?_ : CL _ _ _ _ _ _ (Own w S [Res.mp Value.string z6 bm kb, Res.row b8 73 [Vn 0, Vn 0, .string (⟨#[]⟩ : ByteArray), Vi 0, Vi 0], Res.row b 71 [.map (some bm), .map (some lm), Vi now, Vn cnt], Res.mp zz za lm kl])) w1 (hw.frameL [0, 2] rfl hO)
   refine zC rfl (zl (vs := [.agg (LeaD.cells x1_).toArray, Vi e2_]) rfl rfl rfl (zl (vs := [.agg (LeaD.cells x1_).toArray, Vi e2_]) rfl rfl rfl (yP (v := .agg #[Vn 0, Vn 0, .string (⟨#[]⟩ : ByteArray), Vi 0, Vi 0]) (by kernel_rfl) rfl (fun b10 => zu 4 rfl rfl rfl (yC rfl) rfl (zH rfl (zA (zM (zS (zB (zC rfl (jW rfl rfl rfl (zH rfl ?_))))))))))))
   refine zA (zU rfl (fun c2 => ?_) (fun c2 => ?_))
   ·
    refine zB (yS (cs := [Vn 0, Vn 0, .string (⟨#[]⟩ : ByteArray), Vi 0, Vi 0]) (z := [Vn 0, Vn 0, .string (⟨#[]⟩ : ByteArray), Vi 0, Vi 0]) (pl := [(0, 1), (1, 1), (2, 1), (3, 1), (4, 1)]) (by kernel_rfl) (by kernel_rfl) rfl (zC rfl (zu 1 rfl rfl rfl (yC rfl) rfl (zH rfl (zA ?_)))))
    exact zR (yW (cs := [Vn 0, Vn 0, .string (⟨#[]⟩ : ByteArray), Vi 0, Vi 0]) (v := Vi e2_) rfl rfl rfl (by kernel_rfl) (Own.rowCells (i := 1) rfl) (fun w' hw => ⟨LeaD.zero, e2_, kl, rfl, zFW c1 hf3_3 c2, hw.sel [2, 0, 3] rfl (by decide)⟩))
   ·
    refine zM (zX [0, 1, 4] rfl (by decide) (by kernel_rfl) (fun w' hw hS => zE 0 rfl (zJ) hS (zE 1 rfl (zk (o := 2) rfl) hS (zE 2 rfl (zp 2 (v := .string x1_.key) rfl rfl rfl) hS (zE 4 rfl (zJ) hS (zE 5 rfl (zr rfl) hS (zE 6 rfl (zk (o := 0) rfl) hS (zE 8 rfl (zk (o := 2) rfl) hS (zE 9 rfl (zp 2 (v := .string x1_.key) rfl rfl rfl) hS (zT 3 7 ?_ ?_))))))))))
    ·
     refine zP 3 rfl hw (zQ rfl rfl (fun w' hw => (jl b bm lm now cnt kl x1_.key w' (hw.give [2, 3] rfl (by decide))).mono ?_))
     rintro _ w1 ⟨n3_, rfl, hf6_3, hO⟩
     refine (?_ : CL _ _ _ _ _ _ (Own w S [Res.mp Value.string z6 bm kb, Res.row b8 73 [Vn 0, Vn 0, .string (⟨#[]⟩ : ByteArray), Vi 0, Vi 0], Res.row b10 73 (LeaD.cells x1_), Res.row b 71 [.map (some bm), .map (some lm), Vi now, Vn cnt], Res.mp zz za lm kl])) w1 (hw.frameL [2, 3] rfl hO)
     refine zF [0, 1, 2] rfl (by decide) (fun w' hw hS => zZ 7 rfl hw (zd 3 (v := .map (some bm)) rfl rfl rfl rfl (zF [0, 1, 2] rfl (by decide) (fun w' hw hS => zE 10 rfl (zEj (k := x1_.key) (kv := kb) (zv := 0) zDH zCh zB8 rfl rfl (fun w' hw' => Own.holds hw' 0 _ rfl)) hS (zE 11 rfl (zDT rfl rfl) hS (zE 12 rfl (xW) hS (zK ?_)))))))
     refine (?_ : C _ _ _ _ _ _ _ (Own w S [Res.mp Value.string z6 bm kb, Res.row b8 73 [Vn 0, Vn 0, .string (⟨#[]⟩ : ByteArray), Vi 0, Vi 0], Res.row b10 73 (LeaD.cells x1_), Res.row b 71 [.map (some bm), .map (some lm), Vi now, Vn cnt], Res.mp zz za lm kl])) _ hw
     refine zU rfl (fun c3 => ?_) (fun c3 => ?_)
     ·
      refine zB (yS (cs := [Vn 0, Vn 0, .string (⟨#[]⟩ : ByteArray), Vi 0, Vi 0]) (z := [Vn 0, Vn 0, .string (⟨#[]⟩ : ByteArray), Vi 0, Vi 0]) (pl := [(0, 1), (1, 1), (2, 1), (3, 1), (4, 1)]) (by kernel_rfl) (by kernel_rfl) rfl (zu 1 rfl rfl rfl (yC rfl) rfl (zH rfl (zA ?_))))
      exact zR (yW (cs := [Vn 0, Vn 0, .string (⟨#[]⟩ : ByteArray), Vi 0, Vi 0]) (v := Vi 16) rfl rfl rfl (by kernel_rfl) (Own.rowCells (i := 1) rfl) (fun w' hw => ⟨LeaD.zero, 16, kl, rfl, zDZ c1 hf3_3 c2 hf6_3 c3, hw.sel [3, 0, 4] rfl (by decide)⟩))
     ·
      refine zL (zM (zX [0, 1, 3, 4] rfl (by decide) (by kernel_rfl) (fun w' hw hS => zE 0 rfl (zk (o := 4) rfl) hS (zE 2 rfl (zJ) hS (zE 3 rfl (zr rfl) hS (zE 4 rfl (zk (o := 2) rfl) hS (zE 5 rfl (zp 2 (v := Vi now) rfl rfl rfl) hS (zE 6 rfl (zJ) hS (zE 7 rfl (xn rfl rfl (zt (by omega))) hS (zZ 1 rfl hw (zd 2 (v := Vi x1_.until_) rfl rfl rfl rfl (zF [0, 1, 3, 4] rfl (by decide) (fun w' hw hS => ?_)))))))))))))
      refine zE 8 rfl (zIQ (c := max x1_.until_ (now + sp)) rfl rfl (zKS _ _)) hS (zE 9 rfl (zk (o := 4) rfl) hS (zZ 10 rfl hw (zAb (cs := (LeaD.cells x1_)) 2 rfl rfl rfl rfl rfl (zF [0, 1, 3, 4] rfl (by decide) (fun w' hw hS => zK ?_)))))
      refine (?_ : C _ _ _ _ _ _ _ (Own w S [Res.mp Value.string z6 bm kb, Res.row b8 73 [Vn 0, Vn 0, .string (⟨#[]⟩ : ByteArray), Vi 0, Vi 0], Res.row b10 73 [Vn x1_.id, Vn x1_.session, .string x1_.key, Vi x1_.amount, Vi (max x1_.until_ (now + sp))], Res.row b 71 [.map (some bm), .map (some lm), Vi now, Vn cnt], Res.mp zz za lm kl])) _ hw
      refine zM (zX [0, 1, 2, 3] rfl (by decide) (by kernel_rfl) (fun w' hw hS => zE 0 rfl (zJ) hS (zE 1 rfl (zr rfl) hS (zE 2 rfl (zk (o := 1) rfl) hS (zE 3 rfl (zp 3 (v := .map (some lm)) rfl rfl rfl) hS (zE 4 rfl (zJ) hS (zE 5 rfl (zAz 2 rfl rfl) hS (zZ 6 rfl hw (zAZ 4 (k := i) (v := ({ x1_ with until_ := max x1_.until_ (now + sp) } : LeaD)) zFQ zCa rfl rfl rfl rfl (zF [0, 1, 2, 3] rfl (by decide) (fun w' hw hS => zK ?_)))))))))))
      refine (?_ : C _ _ _ _ _ _ _ (Own w S [Res.mp Value.string z6 bm kb, Res.row b8 73 [Vn 0, Vn 0, .string (⟨#[]⟩ : ByteArray), Vi 0, Vi 0], Res.row b10 73 [Vn x1_.id, Vn x1_.session, .string x1_.key, Vi x1_.amount, Vi (max x1_.until_ (now + sp))], Res.row b 71 [.map (some bm), .map (some lm), Vi now, Vn cnt], Res.mp zz za lm (yq i ({ x1_ with until_ := max x1_.until_ (now + sp) } : LeaD) kl)])) _ hw
      refine zB (yk 2 rfl rfl rfl (zu 1 rfl rfl rfl (yC rfl) rfl (zH rfl (zA ?_))))
      exact zR (yW (cs := [Vn x1_.id, Vn x1_.session, .string x1_.key, Vi x1_.amount, Vi (max x1_.until_ (now + sp))]) (v := Vi 0) rfl rfl rfl (by kernel_rfl) (Own.rowCells (i := 1) rfl) (fun w' hw => ⟨xR x1_ (now + sp), 0, yq i (xR x1_ (now + sp)) kl, rfl, zEa c1 hf3_3 c2 hf6_3 c3, hw.sel [3, 0, 4] rfl (by decide)⟩))
    ·
     refine zP 7 rfl hw (zd 2 (v := .map (some bm)) rfl rfl rfl rfl (zF [0, 1, 4] rfl (by decide) (fun w' hw hS => zE 10 rfl (zEj (k := x1_.key) (kv := kb) (zv := 0) zDH zCh zB8 rfl rfl (fun w' hw' => Own.holds hw' 0 _ rfl)) hS (zZ 3 rfl hw (zQ rfl rfl (fun w' hw => (jl b bm lm now cnt kl x1_.key w' (hw.give [2, 3] rfl (by decide))).mono ?_))))))
     rintro _ w1 ⟨n4_, rfl, hf6_3, hO⟩
     refine (?_ : CL _ _ _ _ _ _ (Own w S [Res.mp Value.string z6 bm kb, Res.row b8 73 [Vn 0, Vn 0, .string (⟨#[]⟩ : ByteArray), Vi 0, Vi 0], Res.row b10 73 (LeaD.cells x1_), Res.row b 71 [.map (some bm), .map (some lm), Vi now, Vn cnt], Res.mp zz za lm kl])) w1 (hw.frameL [2, 3] rfl hO)
     refine zF [0, 1, 2] rfl (by decide) (fun w' hw hS => zE 11 rfl (zDT rfl rfl) hS (zE 12 rfl (xW) hS (zK ?_)))
     refine (?_ : C _ _ _ _ _ _ _ (Own w S [Res.mp Value.string z6 bm kb, Res.row b8 73 [Vn 0, Vn 0, .string (⟨#[]⟩ : ByteArray), Vi 0, Vi 0], Res.row b10 73 (LeaD.cells x1_), Res.row b 71 [.map (some bm), .map (some lm), Vi now, Vn cnt], Res.mp zz za lm kl])) _ hw
     refine zU rfl (fun c4 => ?_) (fun c4 => ?_)
     ·
      refine zB (yS (cs := [Vn 0, Vn 0, .string (⟨#[]⟩ : ByteArray), Vi 0, Vi 0]) (z := [Vn 0, Vn 0, .string (⟨#[]⟩ : ByteArray), Vi 0, Vi 0]) (pl := [(0, 1), (1, 1), (2, 1), (3, 1), (4, 1)]) (by kernel_rfl) (by kernel_rfl) rfl (zu 1 rfl rfl rfl (yC rfl) rfl (zH rfl (zA ?_))))
      exact zR (yW (cs := [Vn 0, Vn 0, .string (⟨#[]⟩ : ByteArray), Vi 0, Vi 0]) (v := Vi 16) rfl rfl rfl (by kernel_rfl) (Own.rowCells (i := 1) rfl) (fun w' hw => ⟨LeaD.zero, 16, kl, rfl, zDZ c1 hf3_3 c2 hf6_3 c4, hw.sel [3, 0, 4] rfl (by decide)⟩))
     ·
      refine zL (zM (zX [0, 1, 3, 4] rfl (by decide) (by kernel_rfl) (fun w' hw hS => zE 0 rfl (zk (o := 4) rfl) hS (zE 2 rfl (zJ) hS (zE 3 rfl (zr rfl) hS (zE 4 rfl (zk (o := 2) rfl) hS (zE 5 rfl (zp 2 (v := Vi now) rfl rfl rfl) hS (zE 6 rfl (zJ) hS (zE 7 rfl (xn rfl rfl (zt (by omega))) hS (zZ 1 rfl hw (zd 2 (v := Vi x1_.until_) rfl rfl rfl rfl (zF [0, 1, 3, 4] rfl (by decide) (fun w' hw hS => ?_)))))))))))))
      refine zE 8 rfl (zIQ (c := max x1_.until_ (now + sp)) rfl rfl (zKS _ _)) hS (zE 9 rfl (zk (o := 4) rfl) hS (zZ 10 rfl hw (zAb (cs := (LeaD.cells x1_)) 2 rfl rfl rfl rfl rfl (zF [0, 1, 3, 4] rfl (by decide) (fun w' hw hS => zK ?_)))))
      refine (?_ : C _ _ _ _ _ _ _ (Own w S [Res.mp Value.string z6 bm kb, Res.row b8 73 [Vn 0, Vn 0, .string (⟨#[]⟩ : ByteArray), Vi 0, Vi 0], Res.row b10 73 [Vn x1_.id, Vn x1_.session, .string x1_.key, Vi x1_.amount, Vi (max x1_.until_ (now + sp))], Res.row b 71 [.map (some bm), .map (some lm), Vi now, Vn cnt], Res.mp zz za lm kl])) _ hw
      refine zM (zX [0, 1, 2, 3] rfl (by decide) (by kernel_rfl) (fun w' hw hS => zE 0 rfl (zJ) hS (zE 1 rfl (zr rfl) hS (zE 2 rfl (zk (o := 1) rfl) hS (zE 3 rfl (zp 3 (v := .map (some lm)) rfl rfl rfl) hS (zE 4 rfl (zJ) hS (zE 5 rfl (zAz 2 rfl rfl) hS (zZ 6 rfl hw (zAZ 4 (k := i) (v := ({ x1_ with until_ := max x1_.until_ (now + sp) } : LeaD)) zFQ zCa rfl rfl rfl rfl (zF [0, 1, 2, 3] rfl (by decide) (fun w' hw hS => zK ?_)))))))))))
      refine (?_ : C _ _ _ _ _ _ _ (Own w S [Res.mp Value.string z6 bm kb, Res.row b8 73 [Vn 0, Vn 0, .string (⟨#[]⟩ : ByteArray), Vi 0, Vi 0], Res.row b10 73 [Vn x1_.id, Vn x1_.session, .string x1_.key, Vi x1_.amount, Vi (max x1_.until_ (now + sp))], Res.row b 71 [.map (some bm), .map (some lm), Vi now, Vn cnt], Res.mp zz za lm (yq i ({ x1_ with until_ := max x1_.until_ (now + sp) } : LeaD) kl)])) _ hw
      refine zB (yk 2 rfl rfl rfl (zu 1 rfl rfl rfl (yC rfl) rfl (zH rfl (zA ?_))))
      exact zR (yW (cs := [Vn x1_.id, Vn x1_.session, .string x1_.key, Vi x1_.amount, Vi (max x1_.until_ (now + sp))]) (v := Vi 0) rfl rfl rfl (by kernel_rfl) (Own.rowCells (i := 1) rfl) (fun w' hw => ⟨xR x1_ (now + sp), 0, yq i (xR x1_ (now + sp)) kl, rfl, zEa c1 hf3_3 c2 hf6_3 c4, hw.sel [3, 0, 4] rfl (by decide)⟩))
theorem zIx {S : List Nat} (b bm lm : Nat) (now : Int) (cnt : Nat) (kl : List (Nat × LeaD)) (s i : Nat) (w : World) (hin : Own w S [Res.row b 71 [.map (some bm), .map (some lm), Vi now, Vn cnt], Res.mp zz za lm kl] w) : Rets Try.prog 62 #[.pointer (some ⟨b, 0, none⟩), Vn s, Vn i] w fun u_ w' => ∃ (x : LeaD) (e : Int) (kl' : List (Nat × LeaD)), u_ = .tuple #[.agg (LeaD.cells x).toArray, Vi e] ∧ zDQ kl s i x e kl' ∧ Own w S [Res.row b 71 [.map (some bm), .map (some lm), Vi now, Vn cnt], Res.mp zz za lm kl'] w' := by
  refine zh Try.func62 rfl Try.ntmps62 hin ?_
  refine zB (yP (v := .agg #[Vn 0, Vn 0, .string (⟨#[]⟩ : ByteArray), Vi 0, Vi 0]) (by kernel_rfl) rfl (fun b6 => zH rfl (zA (zM (zB (zC rfl (xc (by kernel_rfl) rfl rfl rfl (zA (xm rfl (zL (zB (zC rfl ?_))))))))))))
  refine zC rfl (zC rfl (zQ rfl rfl (fun w' hw => (zFi b bm lm now cnt kl s i w' (hw.give [0, 1] rfl (by decide))).mono ?_)))
  rintro _ w1 ⟨x1_, e2_, rfl, hf3_3, hO⟩
  refine (?_ : CL _ _ _ _ _ _ (Own w S [Res.row b6 73 [Vn 0, Vn 0, .string (⟨#[]⟩ : ByteArray), Vi 0, Vi 0], Res.row b 71 [.map (some bm), .map (some lm), Vi now, Vn cnt], Res.mp zz za lm kl])) w1 (hw.frameL [0, 1] rfl hO)
  refine zC rfl (zl (vs := [.agg (LeaD.cells x1_).toArray, Vi e2_]) rfl rfl rfl (zl (vs := [.agg (LeaD.cells x1_).toArray, Vi e2_]) rfl rfl rfl (yP (v := .agg #[Vn 0, Vn 0, .string (⟨#[]⟩ : ByteArray), Vi 0, Vi 0]) (by kernel_rfl) rfl (fun b8 => zu 3 rfl rfl rfl (yC rfl) rfl (zH rfl (zA (zM (zB (zC rfl (yr rfl rfl rfl (zA (zU rfl (fun c2 => ?_) (fun c2 => ?_)))))))))))))
  ·
   refine zg (zC rfl (yB rfl rfl (zW (o := 1) rfl rfl (zd 1 (v := .map (some lm)) rfl rfl rfl rfl (zC rfl (zCr 2 (k := i) zFQ zCa rfl rfl rfl (zA (zB (yk (cs := (LeaD.cells x1_)) 3 rfl rfl rfl (zC rfl (zu 0 rfl rfl rfl (yC rfl) rfl (zH rfl ?_))))))))))))
   refine zA ?_
   exact zR (yW (cs := (LeaD.cells x1_)) (v := Vi e2_) rfl rfl rfl (by kernel_rfl) (Own.rowCells (i := 0) rfl) (fun w' hw => ⟨x1_, e2_, xt i kl, rfl, zGY hf3_3 c2, hw.sel [1, 2] rfl (by decide)⟩))
  ·
   refine zL (zB (yk (cs := (LeaD.cells x1_)) 3 rfl rfl rfl (zC rfl (zu 0 rfl rfl rfl (yC rfl) rfl (zH rfl (zA ?_))))))
   exact zR (yW (cs := (LeaD.cells x1_)) (v := Vi e2_) rfl rfl rfl (by kernel_rfl) (Own.rowCells (i := 0) rfl) (fun w' hw => ⟨x1_, e2_, kl, rfl, zIB hf3_3 c2, hw.sel [1, 2] rfl (by decide)⟩))
theorem zG2 {S : List Nat} (b bm lm : Nat) (now : Int) (cnt : Nat) (kl : List (Nat × LeaD)) (n : Int) (w : World) (ht : 0 ≤ now ∧ now ≤ 2305843009213693952) (hn : ye n) (hk : KNd kl) (hl : kl.length ≤ 128) (hin : Own w S [Res.row b 71 [.map (some bm), .map (some lm), Vi now, Vn cnt], Res.mp zz za lm kl] w) : Rets Try.prog 15 #[.pointer (some ⟨b, 0, none⟩), Vi n] w fun u_ w' => ∃ (gv : Value) (gs : List Nat) (e now' : Int) (kl' : List (Nat × LeaD)), u_ = .tuple #[gv, Vi e] ∧ e = yV now n ∧ now' = zAh now n ∧ kl' = kd now n kl ∧ gs.Perm (zBT now n kl) ∧ gs.Pairwise (fun x y => x ≤ y) ∧ Own w S [Res.row b 71 [.map (some bm), .map (some lm), Vi now', Vn cnt], Res.mp zz za lm kl', Res.vec 28 1 gv gs.length (gs.flatMap U1)] w' := by
  refine zh Try.func15 rfl Try.ntmps15 hin ?_
  refine zB (zH rfl (zH rfl (zA (zM (zS (zB (zC rfl (xc (by kernel_rfl) rfl rfl rfl (zC rfl (zV rfl rfl (zC rfl (zV rfl rfl ?_))))))))))))
  refine yO rfl rfl rfl (xu rfl rfl (zC rfl (xJ (q := n < 0) 2 6 [17, 16] (1099511627776 < n) rfl rfl rfl rfl rfl rfl trivial rfl (fun h1_6 => ?_) (fun g1_9 => ?_))))
  ·
   refine zV rfl (gF h1_6) (zC rfl (zV rfl (gF h1_6) (xY rfl rfl rfl ?_)))
   exact yi rfl (fun _ hw => hw)
  refine zH rfl (zA (zU rfl (fun c1 => ?_) (fun c1 => ?_)))
  ·
   refine zB (zH rfl (zH rfl (zA ?_)))
   exact zR (ya (v := .slice none 0 0) (v' := Vi 1) rfl rfl rfl (fun w' hw => ⟨.slice none 0 0, [], 1, now, kl, rfl, (xi (kl := kl) (zCO c1) (by decide)).1, (xi (kl := kl) (zCO c1) (by decide)).2.1, (xi (kl := kl) (zCO c1) (by decide)).2.2.1, (xi (kl := kl) (zCO c1) (by decide)).2.2.2, List.Pairwise.nil, (yd hw 28 1)⟩))
  ·
   refine zB (zC rfl (yB rfl rfl (zW (o := 2) rfl rfl (zd 0 (v := Vi now) rfl rfl rfl rfl (zC rfl (z9 rfl rfl (zt (by omega)) rfl (xY rfl rfl rfl (zH rfl (zA (zU rfl (fun c2 => ?_) (fun c2 => ?_)))))))))))
   ·
    refine zB (zH rfl (zH rfl (zA ?_)))
    exact zR (ya (v := .slice none 0 0) (v' := Vi 3) rfl rfl rfl (fun w' hw => ⟨.slice none 0 0, [], 3, now, kl, rfl, (xi (kl := kl) (zCL c1 c2) (by decide)).1, (xi (kl := kl) (zCL c1 c2) (by decide)).2.1, (xi (kl := kl) (zCL c1 c2) (by decide)).2.2.1, (xi (kl := kl) (zCL c1 c2) (by decide)).2.2.2, List.Pairwise.nil, (yd hw 28 1)⟩))
   ·
    refine zL (zB (zC rfl (yB rfl rfl (zW (o := 2) rfl rfl (zd 0 (v := Vi now) rfl rfl rfl rfl (zC rfl (zw rfl rfl (zt (by omega)) rfl (yB rfl rfl (zW (o := 2) rfl rfl (zAb (cs := [.map (some bm), .map (some lm), Vi now, Vn cnt]) 0 rfl rfl rfl rfl rfl (zA (zM ?_))))))))))))
    refine zB (zC rfl (yB rfl rfl (zW (o := 1) rfl rfl (zd 0 (v := .map (some lm)) rfl rfl rfl rfl (zC2 1 zCa rfl rfl rfl (fun r39 => zA (zS ?_)))))))
    refine zHr (fun (todo kv : List (Nat × LeaD)) (gv : Value) (gs : List Nat) => [(0, .pointer (some ⟨b, 0, none⟩)), (4, gv), (39, .pointer (some ⟨r39, 0, none⟩))]) (fun (todo kv : List (Nat × LeaD)) (gv : Value) (gs : List Nat) => PassI (now + n) kl todo kv gs) (fun (todo kv : List (Nat × LeaD)) (gv : Value) (gs : List Nat) => [Res.row b 71 [.map (some bm), .map (some lm), Vi (now + n), Vn cnt], Res.rg zz za lm r39 kv todo, Res.vec 28 1 gv gs.length (gs.flatMap U1)]) (fun (todo kv : List (Nat × LeaD)) (gv : Value) (gs : List Nat) => todo.length) (fun w' hw => ⟨kl, kl, .slice none 0 0, [], ⟨rfl, rfl, rfl, trivial⟩, PassI.start _ _, (yd hw 28 1)⟩) (fun todo kv gv gs g hΦ => ?_)
    have hgl : gs.length ≤ 128 := Nat.le_trans (PassI.len hΦ) hl
    refine zB (zEY 1 rfl rfl rfl (fun hq0 => ?_) (fun q1 k v q2 hq1 => ?_))
    ·
     refine zl (vs := [.bool false]) rfl rfl rfl (zA (zM (xm rfl (yA rfl (zB (zC rfl (zQ rfl rfl (fun w' hw => (zIu gv gs w' (by first | assumption | omega | (simp <;> omega) | (constructor <;> (first | omega | (simp only [zx]; omega) | (simp <;> omega)))) (hw.give [2] rfl (by decide))).mono ?_))))))))
     rintro _ w1 ⟨l'1_, rfl, hf12_1, hf12_1_1, hO⟩
     refine (?_ : CL _ _ _ _ _ _ (Own w S [Res.row b 71 [.map (some bm), .map (some lm), Vi (now + n), Vn cnt], Res.rg zz za lm r39 kv todo, Res.vec 28 1 gv l'1_.length (l'1_.flatMap U1)])) w1 (hw.frameL [2] rfl hO)
     refine zA (zB (zC rfl (zH rfl (zH rfl (zA ?_)))))
     exact zR (ya (v := gv) (v' := Vi 0) rfl rfl rfl (fun w' hw => ⟨gv, l'1_, 0, now + n, kv, rfl, (hΦ.done hq0 hk (zCN c1 c2)).1, (hΦ.done hq0 hk (zCN c1 c2)).2.1, (hΦ.done hq0 hk (zCN c1 c2)).2.2.1, hf12_1.trans (hΦ.done hq0 hk (zCN c1 c2)).2.2.2, hf12_1_1.imp (fun q => ole_nat.1 q), (Own.rgEnd 1 hw rfl)⟩))
    ·
     refine zl (vs := [.bool true, Vn k, .agg (LeaD.cells v).toArray]) rfl rfl rfl (zA (zM (zEN rfl (zL (zS (zB (zDO 1 rfl rfl rfl (zl (vs := [Vn k, .agg (LeaD.cells v).toArray]) rfl rfl rfl (zl (vs := [Vn k, .agg (LeaD.cells v).toArray]) rfl rfl rfl (yP (v := .agg #[Vn 0, Vn 0, .string (⟨#[]⟩ : ByteArray), Vi 0, Vi 0]) (by kernel_rfl) rfl (fun b7 => zH rfl (zu 3 rfl rfl rfl (yC rfl) rfl ?_))))))))))))
     refine zA (ku (by kernel_rfl) (by kernel_rfl) (zn rfl (zk (o := 4) rfl) (zn rfl (zp 3 (v := Vi v.until_) rfl rfl rfl) (zn rfl (zJ) (zn rfl (zr rfl) (zn rfl (zk (o := 2) rfl) (zn rfl (zp 0 (v := Vi (now + n)) rfl rfl rfl) (zn rfl (zA3 rfl rfl) (zC4 (zU rfl (fun c5 => ?_) (fun c5 => ?_)))))))))))
     ·
      refine zB (zC rfl (zC rfl (yg (e := 28) (sz := 1) (vs := [Vn k]) (by kernel_rfl) rfl rfl (by simp [Value.cells]) (by decide) rfl (fun b54 => y9 (g := U1) (sz := 1) (by' := 8) (fun _ => rfl) (l := gs) (l' := [k]) (by simp [cell1, U1]) 2 (by kernel_rfl) rfl rfl rfl (fun w' hw' => Vec.sl (Own.holds hw' 4 _ rfl)) (by first | omega | (simp; omega)) (by decide) rfl (fun v55 => zH rfl (zA (zg (zC rfl (yB rfl rfl (zW (o := 1) rfl rfl (zd 0 (v := .map (some lm)) rfl rfl rfl rfl (zC rfl ?_))))))))))))
      refine zGz 1 (k := k) zFQ zCa rfl rfl rfl (hΦ.out hk hq1) ?_
      exact zf (fun w' hw => ⟨q1 ++ q2, xt k kv, v55, gs ++ [k], ⟨rfl, rfl, rfl, trivial⟩, hΦ.yes hk hq1 c5, hw.sel [0, 1, 2] rfl (by decide), (by rw [hq1, List.length_append, List.length_append, List.length_cons]; omega)⟩)
     ·
      exact xS (fun w' hw => ⟨q1 ++ q2, kv, gv, gs, ⟨rfl, rfl, rfl, trivial⟩, hΦ.no hq1 c5, hw.sel [0, 1, 2] rfl (by decide), (by rw [hq1, List.length_append, List.length_append, List.length_cons]; omega)⟩)
end Go.Proofs.Ytcdiehplbmkmeaa
