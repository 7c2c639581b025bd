import Derived.Test.YtcdiehplbmkmeaaGreatLeC
import Derived.Test.YtcdiehplbmkmeaaGreatSortU4
import Derived.Test.YtcdiehplbmkmeaaGreatFwG
import Derived.Test.YtcdiehplbmkmeaaGreatQuotaP
set_option linter.unusedSectionVars false
set_option linter.unusedSimpArgs false
set_option linter.unusedVariables false
set_option maxRecDepth 10000
namespace Go.Proofs.YtcdiehplbmkmeaaGreat
open Go Go.Sc Go.Proofs
def zz (l : RepD) : Value := .agg l.cells.toArray
def yp (n : Nat) : Value := .int .u64 n
def RepD.zero : RepD := ⟨0, 0, 0, 0, 0, 0⟩
instance : Inhabited RepD := ⟨RepD.zero⟩
theorem zK4 : KeyL Tryz.prog 32 yp := zC5 (by kernel_rfl)
theorem zJN : xy Tryz.prog 128 = some (32, 50) := by kernel_rfl
theorem zKo : kO Tryz.prog 50 = some (zz RepD.zero) := by kernel_rfl
def zw (kl : List (Nat × RepD)) (s q : Nat) : RepD × Int :=
  if s = 0 ∨ q = 0 then (RepD.zero, 1) else
  match zf s kl with
  | none => if 32 ≤ kl.length then (RepD.zero, 7) else (RepD.zero, 8)
  | some r => if r.seq < q then (RepD.zero, 8) else if q < r.seq then (RepD.zero, 13) else (r, 0)
def x2 (r : RepD) (e : Int) : Int := if ¬ r.ok then 2 else if e = 8 then 0 else if e = 0 then 9 else e
def jF (kl : List (Nat × RepD)) (r : RepD) : List (Nat × RepD) := if r.ok ∧ (zw kl r.session r.seq).2 = 8 then y8 r.session r kl else kl
section
variable {kl : List (Nat × RepD)} {s q : Nat} {r : RepD}
theorem zI4 (h : (((s : Nat) : Int) = ((0 : Nat) : Int)) ∨ (((q : Nat) : Int) = ((0 : Nat) : Int))) : zw kl s q = (RepD.zero, 1) := by
  unfold zw; rw [if_pos (by omega)]
theorem zLM (h : ¬ ((((s : Nat) : Int) = ((0 : Nat) : Int)) ∨ (((q : Nat) : Int) = ((0 : Nat) : Int)))) (h2 : (!(zf s kl).isSome) = true ∧ 32 ≤ ((kl.length : Nat) : Int)) : zw kl s q = (RepD.zero, 7) := by
  unfold zw
  rw [if_neg (by omega)]
  cases hg : zf s kl with
  | none => show (if 32 ≤ kl.length then _ else _) = _; rw [if_pos (by omega)]
  | some r => rw [hg] at h2; exact absurd h2.1 (by simp)
theorem zKl (h : ¬ ((((s : Nat) : Int) = ((0 : Nat) : Int)) ∨ (((q : Nat) : Int) = ((0 : Nat) : Int)))) (h2 : ¬ ((!(zf s kl).isSome) = true ∧ 32 ≤ ((kl.length : Nat) : Int))) (h3 : (!(zf s kl).isSome) = true ∨ ((((zf s kl).getD RepD.zero).seq : Nat) : Int) < ((q : Nat) : Int)) : zw kl s q = (RepD.zero, 8) := by
  unfold zw
  rw [if_neg (by omega)]
  cases hg : zf s kl with
  | none =>
    show (if 32 ≤ kl.length then _ else _) = _
    rw [if_neg fun q => h2 ⟨by rw [hg]; rfl, by omega⟩]
  | some r =>
    rw [hg, Option.getD_some] at h3
    have h3 : r.seq < q := by rcases h3 with h3 | h3; exact absurd h3 (by simp); omega
    show (if r.seq < q then _ else _) = _
    rw [if_pos h3]
theorem zCC {k : Nat} (h3 : ¬ ((!(zf s kl).isSome) = true ∨ ((((zf s kl).getD RepD.zero).seq : Nat) : Int) < ((k : Nat) : Int))) : ∃ r, zf s kl = some r ∧ ¬ r.seq < k := by
  cases hg : zf s kl with
  | none => exact absurd (.inl (by rw [hg]; rfl)) h3
  | some r => exact ⟨r, rfl, fun q => h3 (.inr (by rw [hg, Option.getD_some]; omega))⟩
theorem zJz (h : ¬ ((((s : Nat) : Int) = ((0 : Nat) : Int)) ∨ (((q : Nat) : Int) = ((0 : Nat) : Int)))) (h3 : ¬ ((!(zf s kl).isSome) = true ∨ ((((zf s kl).getD RepD.zero).seq : Nat) : Int) < ((q : Nat) : Int))) (h4 : ((q : Nat) : Int) < ((((zf s kl).getD RepD.zero).seq : Nat) : Int)) : zw kl s q = (RepD.zero, 13) := by
  obtain ⟨r, hr, h5⟩ := zCC h3
  unfold zw
  rw [if_neg (by omega), hr]
  rw [hr, Option.getD_some] at h4
  show (if r.seq < q then _ else if q < r.seq then _ else _) = _
  rw [if_neg h5, if_pos (by omega)]
theorem zKk (h : ¬ ((((s : Nat) : Int) = ((0 : Nat) : Int)) ∨ (((q : Nat) : Int) = ((0 : Nat) : Int)))) (h3 : ¬ ((!(zf s kl).isSome) = true ∨ ((((zf s kl).getD RepD.zero).seq : Nat) : Int) < ((q : Nat) : Int))) (h4 : ¬ ((q : Nat) : Int) < ((((zf s kl).getD RepD.zero).seq : Nat) : Int)) : zw kl s q = ((zf s kl).getD RepD.zero, 0) := by
  obtain ⟨r, hr, h5⟩ := zCC h3
  unfold zw
  rw [if_neg (by omega), hr]
  rw [hr, Option.getD_some] at h4
  show (if r.seq < q then _ else if q < r.seq then _ else _) = _
  rw [if_neg h5, if_neg (by omega)]; rfl
theorem zIu (h : yo r.ok ≠ 0) (kl : List (Nat × RepD)) : 2 = x2 r (zw kl r.session r.seq).2 ∧ kl = jF kl r := by
  have hn : ¬ r.ok := fun k => h (errOf_zero.2 k)
  unfold x2 jF
  rw [if_pos hn, if_neg fun k => hn k.1]
  exact ⟨rfl, rfl⟩
theorem zIr (h : ¬ yo r.ok ≠ 0) (he : (zw kl r.session r.seq).2 = 8) : 0 = x2 r (zw kl r.session r.seq).2 ∧ y8 r.session r kl = jF kl r := by
  have hn : r.ok := errOf_zero.1 (Decidable.not_not.1 h)
  unfold x2 jF
  rw [if_neg fun k => k hn, if_pos he, if_pos ⟨hn, he⟩]
  exact ⟨rfl, rfl⟩
theorem zI7 (h : ¬ yo r.ok ≠ 0) (he : (zw kl r.session r.seq).2 = 0) : 9 = x2 r (zw kl r.session r.seq).2 ∧ kl = jF kl r := by
  have hn : r.ok := errOf_zero.1 (Decidable.not_not.1 h)
  unfold x2 jF
  rw [if_neg fun k => k hn, he, if_neg (by decide), if_pos rfl, if_neg (by rintro ⟨_, k⟩; cases k)]
  exact ⟨rfl, rfl⟩
theorem zJC {e : Int} (h : ¬ yo r.ok ≠ 0) (he : (zw kl r.session r.seq).2 = e) (h8 : ¬ e = 8) (h0 : ¬ e = 0) : e = x2 r (zw kl r.session r.seq).2 ∧ kl = jF kl r := by
  have hn : r.ok := errOf_zero.1 (Decidable.not_not.1 h)
  unfold x2 jF
  rw [if_neg fun k => k hn, he, if_neg h8, if_neg h0, if_neg fun k => h8 k.2]
  exact ⟨rfl, rfl⟩
end
theorem zJY (w : World) : Rets Tryz.prog 47 #[] w fun u_ w' => ∃ (b m : Nat), u_ = .pointer (some ⟨b, 0, none⟩) ∧ Own w [] [Res.row b 130 [.map (some m)], Res.mp yp zz m ([] : List (Nat × RepD))] w' := by
  refine zd Tryz.func47 rfl Tryz.ntmps47 (Own.start w) ?_
  refine zB (zE rfl (zA (zB (zAb (α := RepD) yp zz rfl rfl (fun m1 => yB (cs := [.map (some m1)]) (z := [.map none]) (pl := [(0, 1)]) (by kernel_rfl) (by kernel_rfl) rfl (yg rfl rfl (fun b3 => zE rfl (zA ?_))))))))
  exact zN (zu (v := .pointer (some ⟨b3, 0, none⟩)) rfl rfl (fun w' hw => ⟨b3, m1, rfl, hw.sel [1, 0] rfl (by decide)⟩))
theorem zCx {S : List Nat} (b m : Nat) (kl : List (Nat × RepD)) (s q : Nat) (w : World) (hin : Own w S [Res.row b 130 [.map (some m)], Res.mp yp zz m kl] w) : Rets Tryz.prog 70 #[.pointer (some ⟨b, 0, none⟩), Vn s, Vn q] w fun u_ w' => ∃ (x : RepD) (e : Int), u_ = .tuple #[.agg (RepD.cells x).toArray, Vi e] ∧ zw kl s q = (x, e) ∧ Own w S [Res.row b 130 [.map (some m)], Res.mp yp zz m kl] w' := by
  refine zd Tryz.func70 rfl Tryz.ntmps70 hin ?_
  refine zB (yG (v := .agg #[Vn 0, Vn 0, Vi 0, Vn 0, Vi 0, Vi 0]) (by kernel_rfl) rfl (fun b6 => zE rfl (zA (zK (zB (zC rfl (xk (by kernel_rfl) rfl rfl rfl (zC rfl (zQ rfl rfl (zC rfl (zQ rfl rfl (yX rfl rfl rfl ?_))))))))))))
  refine kY rfl rfl (zC rfl (yn (q := ((s : Nat) : Int) = ((0 : Nat) : Int)) 2 6 [18, 17] (((q : Nat) : Int) = ((0 : Nat) : Int)) rfl rfl rfl rfl rfl rfl trivial rfl (fun h1_6 => ?_) (fun g1_9 => ?_)))
  ·
   refine zQ rfl (gF h1_6) (zC rfl (zQ rfl (gF h1_6) (yX rfl rfl rfl ?_)))
   exact yH rfl (fun _ hw => hw)
  refine zA (zT rfl (fun c1 => ?_) (fun c1 => ?_))
  ·
   refine zB (yB (cs := [Vn 0, Vn 0, Vi 0, Vn 0, Vi 0, Vi 0]) (z := [Vn 0, Vn 0, Vi 0, Vn 0, Vi 0, Vi 0]) (pl := [(0, 1), (1, 1), (2, 1), (3, 1), (4, 1), (5, 1)]) (by kernel_rfl) (by kernel_rfl) rfl (zi 2 rfl rfl rfl (zx rfl) rfl (zE rfl (zA ?_))))
   exact zN (z5 (cs := [Vn 0, Vn 0, Vi 0, Vn 0, Vi 0, Vi 0]) (v := Vi 1) rfl rfl rfl (by kernel_rfl) (Own.rowCells (i := 2) rfl) (fun w' hw => ⟨RepD.zero, 1, rfl, zI4 c1, hw.sel [0, 1] rfl (by decide)⟩))
  ·
   refine zI (zB (zC rfl (zp rfl rfl (zM (o := 0) rfl rfl (zU 0 (v := .map (some m)) rfl rfl rfl rfl (zC rfl (zBc (k := s) (kv := kl) (zv := RepD.zero) zK4 zJN zKo rfl rfl (fun w' hw' => Own.holds hw' 1 _ rfl) rfl (zC rfl (zr (vs := [.agg (RepD.cells ((zf s kl).getD RepD.zero)).toArray, .bool ((zf s kl).isSome)]) rfl rfl rfl (zr (vs := [.agg (RepD.cells ((zf s kl).getD RepD.zero)).toArray, .bool ((zf s kl).isSome)]) rfl rfl rfl (yG (v := .agg #[Vn 0, Vn 0, Vi 0, Vn 0, Vi 0, Vi 0]) (by kernel_rfl) rfl (fun b8 => zi 3 rfl rfl rfl (zx rfl) rfl ?_))))))))))))
   refine zE rfl (zA (zK (zX (zB (zC rfl (kL (b := (zf s kl).isSome) rfl rfl (zC rfl (z7 (q := (!((zf s kl).isSome)) = true) 6 2 [39, 38, 37, 36, 35, 34] (32 ≤ ((kl.length : Nat) : Int)) rfl rfl (yt _) rfl rfl rfl trivial rfl (fun h4_2 => ?_) (fun g4_9 => ?_)))))))))
   ·
    refine zQ rfl (bT h4_2) (zC rfl (zQ rfl (bT h4_2) (zp rfl rfl (zQ rfl (bT h4_2) (zM (o := 0) rfl rfl (zQ rfl (bT h4_2) (zU 0 (v := .map (some m)) rfl rfl rfl rfl (zQ rfl (bT h4_2) (zCn yp zz (kv := kl) zJN rfl (fun w' hw' => Own.holds hw' 1 _ rfl) rfl (zQ rfl (bT h4_2) (yQ rfl rfl rfl ?_)))))))))))
    exact yH rfl (fun _ hw => hw)
   refine zE rfl (zA (zT rfl (fun c2 => ?_) (fun c2 => ?_)))
   ·
    refine zB (yB (cs := [Vn 0, Vn 0, Vi 0, Vn 0, Vi 0, Vi 0]) (z := [Vn 0, Vn 0, Vi 0, Vn 0, Vi 0, Vi 0]) (pl := [(0, 1), (1, 1), (2, 1), (3, 1), (4, 1), (5, 1)]) (by kernel_rfl) (by kernel_rfl) rfl (zi 2 rfl rfl rfl (zx rfl) rfl (zE rfl (zA ?_))))
    exact zN (z5 (cs := [Vn 0, Vn 0, Vi 0, Vn 0, Vi 0, Vi 0]) (v := Vi 7) rfl rfl rfl (by kernel_rfl) (Own.rowCells (i := 2) rfl) (fun w' hw => ⟨RepD.zero, 7, rfl, zLM c1 c2, hw.sel [0, 1] rfl (by decide)⟩))
   ·
    refine zB (zC rfl (kL (b := (zf s kl).isSome) rfl rfl (zC rfl (yn (q := (!((zf s kl).isSome)) = true) 4 2 [49, 48, 47, 46] (((((zf s kl).getD RepD.zero).seq : Nat) : Int) < ((q : Nat) : Int)) rfl rfl (yt _) rfl rfl rfl trivial rfl (fun h6_2 => ?_) (fun g6_7 => ?_)))))
    ·
     refine zQ rfl (bF h6_2) (zC rfl (zQ rfl (bF h6_2) (zM (o := 1) rfl rfl (zQ rfl (bF h6_2) (zU 3 (v := Vn (((zf s kl).getD RepD.zero).seq)) rfl rfl rfl rfl (zQ rfl (bF h6_2) (xF rfl rfl rfl ?_)))))))
     exact yH rfl (fun _ hw => hw)
    refine zE rfl (zA (zT rfl (fun c3 => ?_) (fun c3 => ?_)))
    ·
     refine zB (yB (cs := [Vn 0, Vn 0, Vi 0, Vn 0, Vi 0, Vi 0]) (z := [Vn 0, Vn 0, Vi 0, Vn 0, Vi 0, Vi 0]) (pl := [(0, 1), (1, 1), (2, 1), (3, 1), (4, 1), (5, 1)]) (by kernel_rfl) (by kernel_rfl) rfl (zi 2 rfl rfl rfl (zx rfl) rfl (zE rfl (zA ?_))))
     exact zN (z5 (cs := [Vn 0, Vn 0, Vi 0, Vn 0, Vi 0, Vi 0]) (v := Vi 8) rfl rfl rfl (by kernel_rfl) (Own.rowCells (i := 2) rfl) (fun w' hw => ⟨RepD.zero, 8, rfl, zKl c1 c2 c3, hw.sel [0, 1] rfl (by decide)⟩))
    ·
     refine zB (zC rfl (zM (o := 1) rfl rfl (zU 3 (v := Vn (((zf s kl).getD RepD.zero).seq)) rfl rfl rfl rfl (yA rfl rfl rfl (zE rfl (zA (zT rfl (fun c4 => ?_) (fun c4 => ?_))))))))
     ·
      refine zB (yB (cs := [Vn 0, Vn 0, Vi 0, Vn 0, Vi 0, Vi 0]) (z := [Vn 0, Vn 0, Vi 0, Vn 0, Vi 0, Vi 0]) (pl := [(0, 1), (1, 1), (2, 1), (3, 1), (4, 1), (5, 1)]) (by kernel_rfl) (by kernel_rfl) rfl (zi 2 rfl rfl rfl (zx rfl) rfl (zE rfl (zA ?_))))
      exact zN (z5 (cs := [Vn 0, Vn 0, Vi 0, Vn 0, Vi 0, Vi 0]) (v := Vi 13) rfl rfl rfl (by kernel_rfl) (Own.rowCells (i := 2) rfl) (fun w' hw => ⟨RepD.zero, 13, rfl, zJz c1 c3 c4, hw.sel [0, 1] rfl (by decide)⟩))
     ·
      refine zI (zB (yP (cs := (RepD.cells ((zf s kl).getD RepD.zero))) 3 rfl rfl rfl (zi 2 rfl rfl rfl (zx rfl) rfl (zE rfl (zA ?_)))))
      exact zN (z5 (cs := (RepD.cells ((zf s kl).getD RepD.zero))) (v := Vi 0) rfl rfl rfl (by kernel_rfl) (Own.rowCells (i := 2) rfl) (fun w' hw => ⟨(zf s kl).getD RepD.zero, 0, rfl, zKk c1 c3 c4, hw.sel [0, 1] rfl (by decide)⟩))
theorem zHg {S : List Nat} (b m : Nat) (kl : List (Nat × RepD)) (r : RepD) (w : World) (hx : r.wf) (hin : Own w S [Res.row b 130 [.map (some m)], Res.mp yp zz m kl] w) : Rets Tryz.prog 72 #[.pointer (some ⟨b, 0, none⟩), .agg (RepD.cells r).toArray] w fun u_ w' => ∃ (e : Int) (kl' : List (Nat × RepD)), u_ = Vi e ∧ e = x2 r (zw kl r.session r.seq).2 ∧ kl' = jF kl r ∧ Own w S [Res.row b 130 [.map (some m)], Res.mp yp zz m kl'] w' := by
  refine zd Tryz.func72 rfl Tryz.ntmps72 hin ?_
  refine zB (yg rfl rfl (fun b3 => zE rfl (zA (zK (zB (zC rfl (xk (by kernel_rfl) rfl rfl rfl (zA (xr rfl (zI (zK (zB ?_))))))))))))
  refine yP (cs := (RepD.cells r)) 2 rfl rfl rfl (zP rfl rfl (fun w' hw => (zEQ r w' ‹_›).mono ?_))
  rintro _ w1 ⟨r1_, rfl, hO⟩
  refine (?_ : CL _ _ _ _ _ _ (Own w S [Res.row b 130 [.map (some m)], Res.mp yp zz m kl, Res.row b3 50 (RepD.cells r), Res.vec 5 1 r1_ (if r.ok then r.enc else []).length ((if r.ok then r.enc else []).map vb)])) w1 (hw.frame0 hO)
  refine zC rfl (zr (vs := [r1_, Vi (yo r.ok)]) rfl rfl rfl (zr (vs := [r1_, Vi (yo r.ok)]) rfl rfl rfl (zE rfl (zE rfl (zA (zB (zC rfl (kP rfl rfl rfl (zA (zT rfl (fun c2 => ?_) (fun c2 => ?_)))))))))))
  ·
   refine zB (zE rfl (zA ?_))
   exact zN (zu (v := Vi 2) rfl rfl (fun w' hw => ⟨2, kl, rfl, (zIu c2 kl).1, (zIu c2 kl).2, hw.sel [0, 1] rfl (by decide)⟩))
  ·
   refine zI (zB (zC rfl (zM (o := 0) rfl rfl (zU 2 (v := Vn r.session) rfl rfl rfl rfl (zM (o := 1) rfl rfl (zU 2 (v := Vn r.seq) rfl rfl rfl rfl (zP rfl rfl (fun w' hw => (zCx b m kl r.session r.seq w' (hw.give [0, 1] rfl (by decide))).mono ?_))))))))
   rintro _ w1 ⟨x2_, e3_, rfl, hf6_5, hO⟩
   have hfe : (zw kl r.session r.seq).2 = e3_ := congrArg Prod.snd hf6_5
   refine (?_ : CL _ _ _ _ _ _ (Own w S [Res.row b3 50 (RepD.cells r), Res.vec 5 1 r1_ (if r.ok then r.enc else []).length ((if r.ok then r.enc else []).map vb), Res.row b 130 [.map (some m)], Res.mp yp zz m kl])) w1 (hw.frameL [0, 1] rfl hO)
   refine zC rfl (zr (vs := [.agg (RepD.cells x2_).toArray, Vi e3_]) rfl rfl rfl (zr (vs := [.agg (RepD.cells x2_).toArray, Vi e3_]) rfl rfl rfl (yG (v := .agg #[Vn 0, Vn 0, Vi 0, Vn 0, Vi 0, Vi 0]) (by kernel_rfl) rfl (fun b7 => zi 4 rfl rfl rfl (zx rfl) rfl (zE rfl (zA (zB (zC rfl (zA (zX (zB (yX rfl rfl rfl ?_))))))))))))
   refine zE rfl (zA (zT rfl (fun c3 => ?_) (fun c3 => ?_)))
   ·
    refine zK (zc [0, 1, 2, 4] rfl (by decide) (by kernel_rfl) (fun w' hw hS => zD 0 rfl (zL) hS (zD 1 rfl (zn rfl) hS (zD 2 rfl (zY (o := 0) rfl) hS (zD 3 rfl (zj 2 (v := .map (some m)) rfl rfl rfl) hS (zD 4 rfl (zY (o := 0) rfl) hS (zD 5 rfl (zj 0 (v := Vn r.session) rfl rfl rfl) hS (zD 6 rfl (jz (cs := (RepD.cells r)) 0 rfl rfl) hS (zZ 7 rfl hw (zAv 3 (k := r.session) (v := r) zK4 zJN rfl rfl rfl rfl (zF [0, 1, 2, 4] rfl (by decide) (fun w' hw hS => zO ?_))))))))))))
    refine (?_ : C _ _ _ _ _ _ _ (Own w S [Res.row b3 50 (RepD.cells r), Res.vec 5 1 r1_ (if r.ok then r.enc else []).length ((if r.ok then r.enc else []).map vb), Res.row b 130 [.map (some m)], Res.mp yp zz m (y8 r.session r kl), Res.row b7 50 (RepD.cells x2_)])) _ hw
    refine zB (zE rfl (zA ?_))
    exact zN (zu (v := Vi 0) rfl rfl (fun w' hw => ⟨0, y8 r.session r kl, rfl, (zIr c2 (hfe.trans c3)).1, (zIr c2 (hfe.trans c3)).2, hw.sel [2, 3] rfl (by decide)⟩))
   ·
    refine zB (yX rfl rfl rfl (zE rfl (zA (zT rfl (fun c4 => ?_) (fun c4 => ?_)))))
    ·
     refine zB (zE rfl (zA ?_))
     exact zN (zu (v := Vi 9) rfl rfl (fun w' hw => ⟨9, kl, rfl, (zI7 c2 (hfe.trans c4)).1, (zI7 c2 (hfe.trans c4)).2, hw.sel [2, 3] rfl (by decide)⟩))
    ·
     refine zB (zC rfl (zE rfl (zA ?_)))
     exact zN (zu (v := Vi e3_) rfl rfl (fun w' hw => ⟨e3_, kl, rfl, (zJC c2 hfe c3 c4).1, (zJC c2 hfe c3 c4).2, hw.sel [2, 3] rfl (by decide)⟩))
end Go.Proofs.YtcdiehplbmkmeaaGreat
