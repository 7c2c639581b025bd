import Derived.Test.YtcdiehplbmkmeaaGreatLeC
import Derived.Test.YtcdiehplbmkmeaaGreatSortU4
import Derived.Test.YtcdiehplbmkmeaaGreatFwG
import Derived.Test.YtcdiehplbmkmeaaGreatQuotaP
set_option linter.unusedSectionVars false
set_option linter.unusedSimpArgs false
set_option linter.unusedVariables false
set_option maxRecDepth 10000
namespace Go.Proofs.YtcdiehplbmkmeaaGreat
open Go Go.Sc Go.Proofs
def zx (l : RepD) : Value := .agg l.cells.toArray
def ym (n : Nat) : Value := .int .u64 n
def RepD.zero : RepD := ⟨0, 0, 0, 0, 0, 0⟩
instance : Inhabited RepD := ⟨RepD.zero⟩
theorem zKo : KeyL Tryz.prog 32 ym := zDy (by kernel_rfl)
theorem zKT : x3 Tryz.prog 128 = some (32, 50) := by kernel_rfl
theorem zLv : kM Tryz.prog 50 = some (zx RepD.zero) := by kernel_rfl
def zu (kl : List (Nat × RepD)) (s q : Nat) : RepD × Int :=
  if s = 0 ∨ q = 0 then (RepD.zero, 1) else
  match zf s kl with
  | none => if 32 ≤ kl.length then (RepD.zero, 7) else (RepD.zero, 8)
  | some r => if r.seq < q then (RepD.zero, 8) else if q < r.seq then (RepD.zero, 13) else (r, 0)
def x7 (r : RepD) (e : Int) : Int := if ¬ r.ok then 2 else if e = 8 then 0 else if e = 0 then 9 else e
def jJ (kl : List (Nat × RepD)) (r : RepD) : List (Nat × RepD) := if r.ok ∧ (zu kl r.session r.seq).2 = 8 then y6 r.session r kl else kl
section
variable {kl : List (Nat × RepD)} {s q : Nat} {r : RepD}
theorem zJY (h : (((s : Nat) : Int) = ((0 : Nat) : Int)) ∨ (((q : Nat) : Int) = ((0 : Nat) : Int))) : zu kl s q = (RepD.zero, 1) := by
  unfold zu; rw [if_pos (by omega)]
theorem zLd (h : ¬ ((((s : Nat) : Int) = ((0 : Nat) : Int)) ∨ (((q : Nat) : Int) = ((0 : Nat) : Int)))) (h2 : (!(zf s kl).isSome) = true ∧ 32 ≤ ((kl.length : Nat) : Int)) : zu kl s q = (RepD.zero, 7) := by
  unfold zu
  rw [if_neg (by omega)]
  cases hg : zf s kl with
  | none => show (if 32 ≤ kl.length then _ else _) = _; rw [if_pos (by omega)]
  | some r => rw [hg] at h2; exact absurd h2.1 (by simp)
theorem zLX (h : ¬ ((((s : Nat) : Int) = ((0 : Nat) : Int)) ∨ (((q : Nat) : Int) = ((0 : Nat) : Int)))) (h2 : ¬ ((!(zf s kl).isSome) = true ∧ 32 ≤ ((kl.length : Nat) : Int))) (h3 : (!(zf s kl).isSome) = true ∨ ((((zf s kl).getD RepD.zero).seq : Nat) : Int) < ((q : Nat) : Int)) : zu kl s q = (RepD.zero, 8) := by
  unfold zu
  rw [if_neg (by omega)]
  cases hg : zf s kl with
  | none =>
    show (if 32 ≤ kl.length then _ else _) = _
    rw [if_neg fun q => h2 ⟨by rw [hg]; rfl, by omega⟩]
  | some r =>
    rw [hg, Option.getD_some] at h3
    have h3 : r.seq < q := by rcases h3 with h3 | h3; exact absurd h3 (by simp); omega
    show (if r.seq < q then _ else _) = _
    rw [if_pos h3]
theorem zCe {k : Nat} (h3 : ¬ ((!(zf s kl).isSome) = true ∨ ((((zf s kl).getD RepD.zero).seq : Nat) : Int) < ((k : Nat) : Int))) : ∃ r, zf s kl = some r ∧ ¬ r.seq < k := by
  cases hg : zf s kl with
  | none => exact absurd (.inl (by rw [hg]; rfl)) h3
  | some r => exact ⟨r, rfl, fun q => h3 (.inr (by rw [hg, Option.getD_some]; omega))⟩
theorem zKC (h : ¬ ((((s : Nat) : Int) = ((0 : Nat) : Int)) ∨ (((q : Nat) : Int) = ((0 : Nat) : Int)))) (h3 : ¬ ((!(zf s kl).isSome) = true ∨ ((((zf s kl).getD RepD.zero).seq : Nat) : Int) < ((q : Nat) : Int))) (h4 : ((q : Nat) : Int) < ((((zf s kl).getD RepD.zero).seq : Nat) : Int)) : zu kl s q = (RepD.zero, 13) := by
  obtain ⟨r, hr, h5⟩ := zCe h3
  unfold zu
  rw [if_neg (by omega), hr]
  rw [hr, Option.getD_some] at h4
  show (if r.seq < q then _ else if q < r.seq then _ else _) = _
  rw [if_neg h5, if_pos (by omega)]
theorem zLN (h : ¬ ((((s : Nat) : Int) = ((0 : Nat) : Int)) ∨ (((q : Nat) : Int) = ((0 : Nat) : Int)))) (h3 : ¬ ((!(zf s kl).isSome) = true ∨ ((((zf s kl).getD RepD.zero).seq : Nat) : Int) < ((q : Nat) : Int))) (h4 : ¬ ((q : Nat) : Int) < ((((zf s kl).getD RepD.zero).seq : Nat) : Int)) : zu kl s q = ((zf s kl).getD RepD.zero, 0) := by
  obtain ⟨r, hr, h5⟩ := zCe h3
  unfold zu
  rw [if_neg (by omega), hr]
  rw [hr, Option.getD_some] at h4
  show (if r.seq < q then _ else if q < r.seq then _ else _) = _
  rw [if_neg h5, if_neg (by omega)]; rfl
theorem zJa (h : yl r.ok ≠ 0) (kl : List (Nat × RepD)) : 2 = x7 r (zu kl r.session r.seq).2 ∧ kl = jJ kl r := by
  have hn : ¬ r.ok := fun k => h (errOf_zero.2 k)
  unfold x7 jJ
  rw [if_pos hn, if_neg fun k => hn k.1]
  exact ⟨rfl, rfl⟩
theorem zJQ (h : ¬ yl r.ok ≠ 0) (he : (zu kl r.session r.seq).2 = 8) : 0 = x7 r (zu kl r.session r.seq).2 ∧ y6 r.session r kl = jJ kl r := by
  have hn : r.ok := errOf_zero.1 (Decidable.not_not.1 h)
  unfold x7 jJ
  rw [if_neg fun k => k hn, if_pos he, if_pos ⟨hn, he⟩]
  exact ⟨rfl, rfl⟩
theorem zJP (h : ¬ yl r.ok ≠ 0) (he : (zu kl r.session r.seq).2 = 0) : 9 = x7 r (zu kl r.session r.seq).2 ∧ kl = jJ kl r := by
  have hn : r.ok := errOf_zero.1 (Decidable.not_not.1 h)
  unfold x7 jJ
  rw [if_neg fun k => k hn, he, if_neg (by decide), if_pos rfl, if_neg (by rintro ⟨_, k⟩; cases k)]
  exact ⟨rfl, rfl⟩
theorem zJI {e : Int} (h : ¬ yl r.ok ≠ 0) (he : (zu kl r.session r.seq).2 = e) (h8 : ¬ e = 8) (h0 : ¬ e = 0) : e = x7 r (zu kl r.session r.seq).2 ∧ kl = jJ kl r := by
  have hn : r.ok := errOf_zero.1 (Decidable.not_not.1 h)
  unfold x7 jJ
  rw [if_neg fun k => k hn, he, if_neg h8, if_neg h0, if_neg fun k => h8 k.2]
  exact ⟨rfl, rfl⟩
end
theorem zJ4 (w : World) : Rets Tryz.prog 47 #[] w fun u_ w' => ∃ (b m : Nat), u_ = .pointer (some ⟨b, 0, none⟩) ∧ Own w [] [Res.row b 130 [.map (some m)], Res.mp ym zx m ([] : List (Nat × RepD))] w' := by
  refine ze Tryz.func47 rfl Tryz.ntmps47 (Own.start w) ?_
  refine zB (zH rfl (zA (zB (zAo (α := RepD) ym zx rfl rfl (fun m1 => z8 (cs := [.map (some m1)]) (z := [.map none]) (pl := [(0, 1)]) (by kernel_rfl) (by kernel_rfl) rfl (yj rfl rfl (fun b3 => zH rfl (zA ?_))))))))
  exact zN (z4 (v := .pointer (some ⟨b3, 0, none⟩)) rfl rfl (fun w' hw => ⟨b3, m1, rfl, hw.sel [1, 0] rfl (by decide)⟩))
theorem zC7 {S : List Nat} (b m : Nat) (kl : List (Nat × RepD)) (s q : Nat) (w : World) (hin : Own w S [Res.row b 130 [.map (some m)], Res.mp ym zx m kl] w) : Rets Tryz.prog 70 #[.pointer (some ⟨b, 0, none⟩), Vn s, Vn q] w fun u_ w' => ∃ (x : RepD) (e : Int), u_ = .tuple #[.agg (RepD.cells x).toArray, Vi e] ∧ zu kl s q = (x, e) ∧ Own w S [Res.row b 130 [.map (some m)], Res.mp ym zx m kl] w' := by
  refine ze Tryz.func70 rfl Tryz.ntmps70 hin ?_
  refine zB (yG (v := .agg #[Vn 0, Vn 0, Vi 0, Vn 0, Vi 0, Vi 0]) (by kernel_rfl) rfl (fun b6 => zH rfl (zA (zL (zB (zC rfl (xk (by kernel_rfl) rfl rfl rfl (zC rfl (zR rfl rfl (zC rfl (zR rfl rfl (yV rfl rfl rfl ?_))))))))))))
  refine ka rfl rfl (zC rfl (yk (q := ((s : Nat) : Int) = ((0 : Nat) : Int)) 2 6 [18, 17] (((q : Nat) : Int) = ((0 : Nat) : Int)) rfl rfl rfl rfl rfl rfl trivial rfl (fun h1_6 => ?_) (fun g1_9 => ?_)))
  ·
   refine zR rfl (gF h1_6) (zC rfl (zR rfl (gF h1_6) (yV rfl rfl rfl ?_)))
   exact yH rfl (fun _ hw => hw)
  refine zA (zV rfl (fun c1 => ?_) (fun c1 => ?_))
  ·
   refine zB (z8 (cs := [Vn 0, Vn 0, Vi 0, Vn 0, Vi 0, Vi 0]) (z := [Vn 0, Vn 0, Vi 0, Vn 0, Vi 0, Vi 0]) (pl := [(0, 1), (1, 1), (2, 1), (3, 1), (4, 1), (5, 1)]) (by kernel_rfl) (by kernel_rfl) rfl (zm 2 rfl rfl rfl (zw rfl) rfl (zH rfl (zA ?_))))
   exact zN (zy (cs := [Vn 0, Vn 0, Vi 0, Vn 0, Vi 0, Vi 0]) (v := Vi 1) rfl rfl rfl (by kernel_rfl) (Own.rowCells (i := 2) rfl) (fun w' hw => ⟨RepD.zero, 1, rfl, zJY c1, hw.sel [0, 1] rfl (by decide)⟩))
  ·
   refine zJ (zB (zC rfl (zt rfl rfl (zO (o := 0) rfl rfl (zU 0 (v := .map (some m)) rfl rfl rfl rfl (zC rfl (zBi (k := s) (kv := kl) (zv := RepD.zero) zKo zKT zLv rfl rfl (fun w' hw' => Own.holds hw' 1 _ rfl) rfl (zC rfl (zr (vs := [.agg (RepD.cells ((zf s kl).getD RepD.zero)).toArray, .bool ((zf s kl).isSome)]) rfl rfl rfl (zr (vs := [.agg (RepD.cells ((zf s kl).getD RepD.zero)).toArray, .bool ((zf s kl).isSome)]) rfl rfl rfl (yG (v := .agg #[Vn 0, Vn 0, Vi 0, Vn 0, Vi 0, Vi 0]) (by kernel_rfl) rfl (fun b8 => zm 3 rfl rfl rfl (zw rfl) rfl ?_))))))))))))
   refine zH rfl (zA (zL (zW (zB (zC rfl (kz (b := (zf s kl).isSome) rfl rfl (zC rfl (yD (q := (!((zf s kl).isSome)) = true) 6 2 [39, 38, 37, 36, 35, 34] (32 ≤ ((kl.length : Nat) : Int)) rfl rfl (y3 _) rfl rfl rfl trivial rfl (fun h4_2 => ?_) (fun g4_9 => ?_)))))))))
   ·
    refine zR rfl (bT h4_2) (zC rfl (zR rfl (bT h4_2) (zt rfl rfl (zR rfl (bT h4_2) (zO (o := 0) rfl rfl (zR rfl (bT h4_2) (zU 0 (v := .map (some m)) rfl rfl rfl rfl (zR rfl (bT h4_2) (zCs ym zx (kv := kl) zKT rfl (fun w' hw' => Own.holds hw' 1 _ rfl) rfl (zR rfl (bT h4_2) (yU rfl rfl rfl ?_)))))))))))
    exact yH rfl (fun _ hw => hw)
   refine zH rfl (zA (zV rfl (fun c2 => ?_) (fun c2 => ?_)))
   ·
    refine zB (z8 (cs := [Vn 0, Vn 0, Vi 0, Vn 0, Vi 0, Vi 0]) (z := [Vn 0, Vn 0, Vi 0, Vn 0, Vi 0, Vi 0]) (pl := [(0, 1), (1, 1), (2, 1), (3, 1), (4, 1), (5, 1)]) (by kernel_rfl) (by kernel_rfl) rfl (zm 2 rfl rfl rfl (zw rfl) rfl (zH rfl (zA ?_))))
    exact zN (zy (cs := [Vn 0, Vn 0, Vi 0, Vn 0, Vi 0, Vi 0]) (v := Vi 7) rfl rfl rfl (by kernel_rfl) (Own.rowCells (i := 2) rfl) (fun w' hw => ⟨RepD.zero, 7, rfl, zLd c1 c2, hw.sel [0, 1] rfl (by decide)⟩))
   ·
    refine zB (zC rfl (kz (b := (zf s kl).isSome) rfl rfl (zC rfl (yk (q := (!((zf s kl).isSome)) = true) 4 2 [49, 48, 47, 46] (((((zf s kl).getD RepD.zero).seq : Nat) : Int) < ((q : Nat) : Int)) rfl rfl (y3 _) rfl rfl rfl trivial rfl (fun h6_2 => ?_) (fun g6_7 => ?_)))))
    ·
     refine zR rfl (bF h6_2) (zC rfl (zR rfl (bF h6_2) (zO (o := 1) rfl rfl (zR rfl (bF h6_2) (zU 3 (v := Vn (((zf s kl).getD RepD.zero).seq)) rfl rfl rfl rfl (zR rfl (bF h6_2) (xF rfl rfl rfl ?_)))))))
     exact yH rfl (fun _ hw => hw)
    refine zH rfl (zA (zV rfl (fun c3 => ?_) (fun c3 => ?_)))
    ·
     refine zB (z8 (cs := [Vn 0, Vn 0, Vi 0, Vn 0, Vi 0, Vi 0]) (z := [Vn 0, Vn 0, Vi 0, Vn 0, Vi 0, Vi 0]) (pl := [(0, 1), (1, 1), (2, 1), (3, 1), (4, 1), (5, 1)]) (by kernel_rfl) (by kernel_rfl) rfl (zm 2 rfl rfl rfl (zw rfl) rfl (zH rfl (zA ?_))))
     exact zN (zy (cs := [Vn 0, Vn 0, Vi 0, Vn 0, Vi 0, Vi 0]) (v := Vi 8) rfl rfl rfl (by kernel_rfl) (Own.rowCells (i := 2) rfl) (fun w' hw => ⟨RepD.zero, 8, rfl, zLX c1 c2 c3, hw.sel [0, 1] rfl (by decide)⟩))
    ·
     refine zB (zC rfl (zO (o := 1) rfl rfl (zU 3 (v := Vn (((zf s kl).getD RepD.zero).seq)) rfl rfl rfl rfl (z9 rfl rfl rfl (zH rfl (zA (zV rfl (fun c4 => ?_) (fun c4 => ?_))))))))
     ·
      refine zB (z8 (cs := [Vn 0, Vn 0, Vi 0, Vn 0, Vi 0, Vi 0]) (z := [Vn 0, Vn 0, Vi 0, Vn 0, Vi 0, Vi 0]) (pl := [(0, 1), (1, 1), (2, 1), (3, 1), (4, 1), (5, 1)]) (by kernel_rfl) (by kernel_rfl) rfl (zm 2 rfl rfl rfl (zw rfl) rfl (zH rfl (zA ?_))))
      exact zN (zy (cs := [Vn 0, Vn 0, Vi 0, Vn 0, Vi 0, Vi 0]) (v := Vi 13) rfl rfl rfl (by kernel_rfl) (Own.rowCells (i := 2) rfl) (fun w' hw => ⟨RepD.zero, 13, rfl, zKC c1 c3 c4, hw.sel [0, 1] rfl (by decide)⟩))
     ·
      refine zJ (zB (yN (cs := (RepD.cells ((zf s kl).getD RepD.zero))) 3 rfl rfl rfl (zm 2 rfl rfl rfl (zw rfl) rfl (zH rfl (zA ?_)))))
      exact zN (zy (cs := (RepD.cells ((zf s kl).getD RepD.zero))) (v := Vi 0) rfl rfl rfl (by kernel_rfl) (Own.rowCells (i := 2) rfl) (fun w' hw => ⟨(zf s kl).getD RepD.zero, 0, rfl, zLN c1 c3 c4, hw.sel [0, 1] rfl (by decide)⟩))
theorem zIt {S : List Nat} (b m : Nat) (kl : List (Nat × RepD)) (r : RepD) (w : World) (hx : r.wf) (hin : Own w S [Res.row b 130 [.map (some m)], Res.mp ym zx m kl] w) : Rets Tryz.prog 72 #[.pointer (some ⟨b, 0, none⟩), .agg (RepD.cells r).toArray] w fun u_ w' => ∃ (e : Int) (kl' : List (Nat × RepD)), u_ = Vi e ∧ e = x7 r (zu kl r.session r.seq).2 ∧ kl' = jJ kl r ∧ Own w S [Res.row b 130 [.map (some m)], Res.mp ym zx m kl'] w' := by
  refine ze Tryz.func72 rfl Tryz.ntmps72 hin ?_
  refine zB (yj rfl rfl (fun b3 => zH rfl (zA (zL (zB (zC rfl (xk (by kernel_rfl) rfl rfl rfl (zA (xt rfl (zJ (zL (zB ?_))))))))))))
  refine yN (cs := (RepD.cells r)) 2 rfl rfl rfl (zQ rfl rfl (fun w' hw => (zEH r w' ‹_›).mono ?_))
  rintro _ w1 ⟨r1_, rfl, hO⟩
  refine (?_ : CL _ _ _ _ _ _ (Own w S [Res.row b 130 [.map (some m)], Res.mp ym zx m kl, Res.row b3 50 (RepD.cells r), Res.vec 5 1 r1_ (if r.ok then r.enc else []).length ((if r.ok then r.enc else []).map vb)])) w1 (hw.frame0 hO)
  refine zC rfl (zr (vs := [r1_, Vi (yl r.ok)]) rfl rfl rfl (zr (vs := [r1_, Vi (yl r.ok)]) rfl rfl rfl (zH rfl (zH rfl (zA (zB (zC rfl (jK rfl rfl rfl (zA (zV rfl (fun c2 => ?_) (fun c2 => ?_)))))))))))
  ·
   refine zB (zH rfl (zA ?_))
   exact zN (z4 (v := Vi 2) rfl rfl (fun w' hw => ⟨2, kl, rfl, (zJa c2 kl).1, (zJa c2 kl).2, hw.sel [0, 1] rfl (by decide)⟩))
  ·
   refine zJ (zB (zC rfl (zO (o := 0) rfl rfl (zU 2 (v := Vn r.session) rfl rfl rfl rfl (zO (o := 1) rfl rfl (zU 2 (v := Vn r.seq) rfl rfl rfl rfl (zQ rfl rfl (fun w' hw => (zC7 b m kl r.session r.seq w' (hw.give [0, 1] rfl (by decide))).mono ?_))))))))
   rintro _ w1 ⟨x2_, e3_, rfl, hf6_5, hO⟩
   have hfe : (zu kl r.session r.seq).2 = e3_ := congrArg Prod.snd hf6_5
   refine (?_ : CL _ _ _ _ _ _ (Own w S [Res.row b3 50 (RepD.cells r), Res.vec 5 1 r1_ (if r.ok then r.enc else []).length ((if r.ok then r.enc else []).map vb), Res.row b 130 [.map (some m)], Res.mp ym zx m kl])) w1 (hw.frameL [0, 1] rfl hO)
   refine zC rfl (zr (vs := [.agg (RepD.cells x2_).toArray, Vi e3_]) rfl rfl rfl (zr (vs := [.agg (RepD.cells x2_).toArray, Vi e3_]) rfl rfl rfl (yG (v := .agg #[Vn 0, Vn 0, Vi 0, Vn 0, Vi 0, Vi 0]) (by kernel_rfl) rfl (fun b7 => zm 4 rfl rfl rfl (zw rfl) rfl (zH rfl (zA (zB (zC rfl (zA (zW (zB (yV rfl rfl rfl ?_))))))))))))
   refine zH rfl (zA (zV rfl (fun c3 => ?_) (fun c3 => ?_)))
   ·
    refine zL (zZ [0, 1, 2, 4] rfl (by decide) (by kernel_rfl) (fun w' hw hS => zD 0 rfl (zK) hS (zD 1 rfl (zq rfl) hS (zD 2 rfl (zc (o := 0) rfl) hS (zD 3 rfl (zl 2 (v := .map (some m)) rfl rfl rfl) hS (zD 4 rfl (zc (o := 0) rfl) hS (zD 5 rfl (zl 0 (v := Vn r.session) rfl rfl rfl) hS (zD 6 rfl (xh (cs := (RepD.cells r)) 0 rfl rfl) hS (zX 7 rfl hw (zAu 3 (k := r.session) (v := r) zKo zKT rfl rfl rfl rfl (zE [0, 1, 2, 4] rfl (by decide) (fun w' hw hS => zM ?_))))))))))))
    refine (?_ : C _ _ _ _ _ _ _ (Own w S [Res.row b3 50 (RepD.cells r), Res.vec 5 1 r1_ (if r.ok then r.enc else []).length ((if r.ok then r.enc else []).map vb), Res.row b 130 [.map (some m)], Res.mp ym zx m (y6 r.session r kl), Res.row b7 50 (RepD.cells x2_)])) _ hw
    refine zB (zH rfl (zA ?_))
    exact zN (z4 (v := Vi 0) rfl rfl (fun w' hw => ⟨0, y6 r.session r kl, rfl, (zJQ c2 (hfe.trans c3)).1, (zJQ c2 (hfe.trans c3)).2, hw.sel [2, 3] rfl (by decide)⟩))
   ·
    refine zB (yV rfl rfl rfl (zH rfl (zA (zV rfl (fun c4 => ?_) (fun c4 => ?_)))))
    ·
     refine zB (zH rfl (zA ?_))
     exact zN (z4 (v := Vi 9) rfl rfl (fun w' hw => ⟨9, kl, rfl, (zJP c2 (hfe.trans c4)).1, (zJP c2 (hfe.trans c4)).2, hw.sel [2, 3] rfl (by decide)⟩))
    ·
     refine zB (zC rfl (zH rfl (zA ?_)))
     exact zN (z4 (v := Vi e3_) rfl rfl (fun w' hw => ⟨e3_, kl, rfl, (zJI c2 hfe c3 c4).1, (zJI c2 hfe c3 c4).2, hw.sel [2, 3] rfl (by decide)⟩))
end Go.Proofs.YtcdiehplbmkmeaaGreat
