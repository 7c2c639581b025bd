import Derived.Test.YtcdiehplbmkmeaaLeC
import Derived.Test.YtcdiehplbmkmeaaSortU4
import Derived.Test.YtcdiehplbmkmeaaFwG
import Derived.Test.YtcdiehplbmkmeaaQuotaP
set_option linter.unusedSectionVars false
set_option linter.unusedSimpArgs false
set_option linter.unusedVariables false
set_option maxRecDepth 10000
namespace Go.Proofs.Ytcdiehplbmkmeaa
open Go Go.Sc Go.Proofs
def zq (l : RepD) : Value := .agg l.cells.toArray
def yM (n : Nat) : Value := .int .u64 n
def RepD.zero : RepD := ⟨0, 0, 0, 0, 0, 0⟩
instance : Inhabited RepD := ⟨RepD.zero⟩
theorem zJw : KeyL Try.prog 28 yM := zCm (by kernel_rfl)
theorem zIn : xo Try.prog 87 = some (28, 32) := by kernel_rfl
theorem zKP : x7 Try.prog 32 = some (zq RepD.zero) := by kernel_rfl
def zy (kl : List (Nat × RepD)) (s q : Nat) : RepD × Int :=
  if s = 0 ∨ q = 0 then (RepD.zero, 1) else
  match zY s kl with
  | none => if 32 ≤ kl.length then (RepD.zero, 7) else (RepD.zero, 8)
  | some r => if r.seq < q then (RepD.zero, 8) else if q < r.seq then (RepD.zero, 13) else (r, 0)
def jx (r : RepD) (e : Int) : Int := if ¬ r.ok then 2 else if e = 8 then 0 else if e = 0 then 9 else e
def kj (kl : List (Nat × RepD)) (r : RepD) : List (Nat × RepD) := if r.ok ∧ (zy kl r.session r.seq).2 = 8 then yq r.session r kl else kl
section
variable {kl : List (Nat × RepD)} {s q : Nat} {r : RepD}
theorem zKg (h : (((s : Nat) : Int) = ((0 : Nat) : Int)) ∨ (((q : Nat) : Int) = ((0 : Nat) : Int))) : zy kl s q = (RepD.zero, 1) := by
  unfold zy; rw [if_pos (by omega)]
theorem zJi (h : ¬ ((((s : Nat) : Int) = ((0 : Nat) : Int)) ∨ (((q : Nat) : Int) = ((0 : Nat) : Int)))) (h2 : (!(zY s kl).isSome) = true ∧ 32 ≤ ((kl.length : Nat) : Int)) : zy kl s q = (RepD.zero, 7) := by
  unfold zy
  rw [if_neg (by omega)]
  cases hg : zY s kl with
  | none => show (if 32 ≤ kl.length then _ else _) = _; rw [if_pos (by omega)]
  | some r => rw [hg] at h2; exact absurd h2.1 (by simp)
theorem zJ7 (h : ¬ ((((s : Nat) : Int) = ((0 : Nat) : Int)) ∨ (((q : Nat) : Int) = ((0 : Nat) : Int)))) (h2 : ¬ ((!(zY s kl).isSome) = true ∧ 32 ≤ ((kl.length : Nat) : Int))) (h3 : (!(zY s kl).isSome) = true ∨ ((((zY s kl).getD RepD.zero).seq : Nat) : Int) < ((q : Nat) : Int)) : zy kl s q = (RepD.zero, 8) := by
  unfold zy
  rw [if_neg (by omega)]
  cases hg : zY s kl with
  | none =>
    show (if 32 ≤ kl.length then _ else _) = _
    rw [if_neg fun q => h2 ⟨by rw [hg]; rfl, by omega⟩]
  | some r =>
    rw [hg, Option.getD_some] at h3
    have h3 : r.seq < q := by rcases h3 with h3 | h3; exact absurd h3 (by simp); omega
    show (if r.seq < q then _ else _) = _
    rw [if_pos h3]
theorem zCH {k : Nat} (h3 : ¬ ((!(zY s kl).isSome) = true ∨ ((((zY s kl).getD RepD.zero).seq : Nat) : Int) < ((k : Nat) : Int))) : ∃ r, zY s kl = some r ∧ ¬ r.seq < k := by
  cases hg : zY s kl with
  | none => exact absurd (.inl (by rw [hg]; rfl)) h3
  | some r => exact ⟨r, rfl, fun q => h3 (.inr (by rw [hg, Option.getD_some]; omega))⟩
theorem zJR (h : ¬ ((((s : Nat) : Int) = ((0 : Nat) : Int)) ∨ (((q : Nat) : Int) = ((0 : Nat) : Int)))) (h3 : ¬ ((!(zY s kl).isSome) = true ∨ ((((zY s kl).getD RepD.zero).seq : Nat) : Int) < ((q : Nat) : Int))) (h4 : ((q : Nat) : Int) < ((((zY s kl).getD RepD.zero).seq : Nat) : Int)) : zy kl s q = (RepD.zero, 13) := by
  obtain ⟨r, hr, h5⟩ := zCH h3
  unfold zy
  rw [if_neg (by omega), hr]
  rw [hr, Option.getD_some] at h4
  show (if r.seq < q then _ else if q < r.seq then _ else _) = _
  rw [if_neg h5, if_pos (by omega)]
theorem zJz (h : ¬ ((((s : Nat) : Int) = ((0 : Nat) : Int)) ∨ (((q : Nat) : Int) = ((0 : Nat) : Int)))) (h3 : ¬ ((!(zY s kl).isSome) = true ∨ ((((zY s kl).getD RepD.zero).seq : Nat) : Int) < ((q : Nat) : Int))) (h4 : ¬ ((q : Nat) : Int) < ((((zY s kl).getD RepD.zero).seq : Nat) : Int)) : zy kl s q = ((zY s kl).getD RepD.zero, 0) := by
  obtain ⟨r, hr, h5⟩ := zCH h3
  unfold zy
  rw [if_neg (by omega), hr]
  rw [hr, Option.getD_some] at h4
  show (if r.seq < q then _ else if q < r.seq then _ else _) = _
  rw [if_neg h5, if_neg (by omega)]; rfl
theorem zIO (h : yR r.ok ≠ 0) (kl : List (Nat × RepD)) : 2 = jx r (zy kl r.session r.seq).2 ∧ kl = kj kl r := by
  have hn : ¬ r.ok := fun k => h (errOf_zero.2 k)
  unfold jx kj
  rw [if_pos hn, if_neg fun k => hn k.1]
  exact ⟨rfl, rfl⟩
theorem zIK (h : ¬ yR r.ok ≠ 0) (he : (zy kl r.session r.seq).2 = 8) : 0 = jx r (zy kl r.session r.seq).2 ∧ yq r.session r kl = kj kl r := by
  have hn : r.ok := errOf_zero.1 (Decidable.not_not.1 h)
  unfold jx kj
  rw [if_neg fun k => k hn, if_pos he, if_pos ⟨hn, he⟩]
  exact ⟨rfl, rfl⟩
theorem zII (h : ¬ yR r.ok ≠ 0) (he : (zy kl r.session r.seq).2 = 0) : 9 = jx r (zy kl r.session r.seq).2 ∧ kl = kj kl r := by
  have hn : r.ok := errOf_zero.1 (Decidable.not_not.1 h)
  unfold jx kj
  rw [if_neg fun k => k hn, he, if_neg (by decide), if_pos rfl, if_neg (by rintro ⟨_, k⟩; cases k)]
  exact ⟨rfl, rfl⟩
theorem zIR {e : Int} (h : ¬ yR r.ok ≠ 0) (he : (zy kl r.session r.seq).2 = e) (h8 : ¬ e = 8) (h0 : ¬ e = 0) : e = jx r (zy kl r.session r.seq).2 ∧ kl = kj kl r := by
  have hn : r.ok := errOf_zero.1 (Decidable.not_not.1 h)
  unfold jx kj
  rw [if_neg fun k => k hn, he, if_neg h8, if_neg h0, if_neg fun k => h8 k.2]
  exact ⟨rfl, rfl⟩
end
theorem zIv (w : World) : Rets Try.prog 20 #[] w fun u_ w' => ∃ (b m : Nat), u_ = .pointer (some ⟨b, 0, none⟩) ∧ Own w [] [Res.row b 89 [.map (some m)], Res.mp yM zq m ([] : List (Nat × RepD))] w' := by
  refine zh Try.func20 rfl Try.ntmps20 (Own.start w) ?_
  refine zB (zH rfl (zA (zB (j6 (α := RepD) yM zq rfl rfl (fun m1 => yS (cs := [.map (some m1)]) (z := [.map none]) (pl := [(0, 1)]) (by kernel_rfl) (by kernel_rfl) rfl (yh rfl rfl (fun b3 => zH rfl (zA ?_))))))))
  exact zR (z3 (v := .pointer (some ⟨b3, 0, none⟩)) rfl rfl (fun w' hw => ⟨b3, m1, rfl, hw.sel [1, 0] rfl (by decide)⟩))
theorem zCc {S : List Nat} (b m : Nat) (kl : List (Nat × RepD)) (s q : Nat) (w : World) (hin : Own w S [Res.row b 89 [.map (some m)], Res.mp yM zq m kl] w) : Rets Try.prog 33 #[.pointer (some ⟨b, 0, none⟩), Vn s, Vn q] w fun u_ w' => ∃ (x : RepD) (e : Int), u_ = .tuple #[.agg (RepD.cells x).toArray, Vi e] ∧ zy kl s q = (x, e) ∧ Own w S [Res.row b 89 [.map (some m)], Res.mp yM zq m kl] w' := by
  refine zh Try.func33 rfl Try.ntmps33 hin ?_
  refine zB (yP (v := .agg #[Vn 0, Vn 0, Vi 0, Vn 0, Vi 0, Vi 0]) (by kernel_rfl) rfl (fun b6 => zH rfl (zA (zM (zB (zC rfl (xc (by kernel_rfl) rfl rfl rfl (zC rfl (zV rfl rfl (zC rfl (zV rfl rfl (yr rfl rfl rfl ?_))))))))))))
  refine xu rfl rfl (zC rfl (xJ (q := ((s : Nat) : Int) = ((0 : Nat) : Int)) 2 6 [18, 17] (((q : Nat) : Int) = ((0 : Nat) : Int)) rfl rfl rfl rfl rfl rfl trivial rfl (fun h1_6 => ?_) (fun g1_9 => ?_)))
  ·
   refine zV rfl (gF h1_6) (zC rfl (zV rfl (gF h1_6) (yr rfl rfl rfl ?_)))
   exact yi rfl (fun _ hw => hw)
  refine zA (zU rfl (fun c1 => ?_) (fun c1 => ?_))
  ·
   refine zB (yS (cs := [Vn 0, Vn 0, Vi 0, Vn 0, Vi 0, Vi 0]) (z := [Vn 0, Vn 0, Vi 0, Vn 0, Vi 0, Vi 0]) (pl := [(0, 1), (1, 1), (2, 1), (3, 1), (4, 1), (5, 1)]) (by kernel_rfl) (by kernel_rfl) rfl (zu 2 rfl rfl rfl (yC rfl) rfl (zH rfl (zA ?_))))
   exact zR (yW (cs := [Vn 0, Vn 0, Vi 0, Vn 0, Vi 0, Vi 0]) (v := Vi 1) rfl rfl rfl (by kernel_rfl) (Own.rowCells (i := 2) rfl) (fun w' hw => ⟨RepD.zero, 1, rfl, zKg c1, hw.sel [0, 1] rfl (by decide)⟩))
  ·
   refine zL (zB (zC rfl (yB rfl rfl (zW (o := 0) rfl rfl (zd 0 (v := .map (some m)) rfl rfl rfl rfl (zC rfl (zBJ (k := s) (kv := kl) (zv := RepD.zero) zJw zIn zKP rfl rfl (fun w' hw' => Own.holds hw' 1 _ rfl) rfl (zC rfl (zl (vs := [.agg (RepD.cells ((zY s kl).getD RepD.zero)).toArray, .bool ((zY s kl).isSome)]) rfl rfl rfl (zl (vs := [.agg (RepD.cells ((zY s kl).getD RepD.zero)).toArray, .bool ((zY s kl).isSome)]) rfl rfl rfl (yP (v := .agg #[Vn 0, Vn 0, Vi 0, Vn 0, Vi 0, Vi 0]) (by kernel_rfl) rfl (fun b8 => zu 3 rfl rfl rfl (yC rfl) rfl ?_))))))))))))
   refine zH rfl (zA (zM (zS (zB (zC rfl (ja (b := (zY s kl).isSome) rfl rfl (zC rfl (yZ (q := (!((zY s kl).isSome)) = true) 6 2 [39, 38, 37, 36, 35, 34] (32 ≤ ((kl.length : Nat) : Int)) rfl rfl (xO _) rfl rfl rfl trivial rfl (fun h4_2 => ?_) (fun g4_9 => ?_)))))))))
   ·
    refine zV rfl (bT h4_2) (zC rfl (zV rfl (bT h4_2) (yB rfl rfl (zV rfl (bT h4_2) (zW (o := 0) rfl rfl (zV rfl (bT h4_2) (zd 0 (v := .map (some m)) rfl rfl rfl rfl (zV rfl (bT h4_2) (zCU yM zq (kv := kl) zIn rfl (fun w' hw' => Own.holds hw' 1 _ rfl) rfl (zV rfl (bT h4_2) (yY rfl rfl rfl ?_)))))))))))
    exact yi rfl (fun _ hw => hw)
   refine zH rfl (zA (zU rfl (fun c2 => ?_) (fun c2 => ?_)))
   ·
    refine zB (yS (cs := [Vn 0, Vn 0, Vi 0, Vn 0, Vi 0, Vi 0]) (z := [Vn 0, Vn 0, Vi 0, Vn 0, Vi 0, Vi 0]) (pl := [(0, 1), (1, 1), (2, 1), (3, 1), (4, 1), (5, 1)]) (by kernel_rfl) (by kernel_rfl) rfl (zu 2 rfl rfl rfl (yC rfl) rfl (zH rfl (zA ?_))))
    exact zR (yW (cs := [Vn 0, Vn 0, Vi 0, Vn 0, Vi 0, Vi 0]) (v := Vi 7) rfl rfl rfl (by kernel_rfl) (Own.rowCells (i := 2) rfl) (fun w' hw => ⟨RepD.zero, 7, rfl, zJi c1 c2, hw.sel [0, 1] rfl (by decide)⟩))
   ·
    refine zB (zC rfl (ja (b := (zY s kl).isSome) rfl rfl (zC rfl (xJ (q := (!((zY s kl).isSome)) = true) 4 2 [49, 48, 47, 46] (((((zY s kl).getD RepD.zero).seq : Nat) : Int) < ((q : Nat) : Int)) rfl rfl (xO _) rfl rfl rfl trivial rfl (fun h6_2 => ?_) (fun g6_7 => ?_)))))
    ·
     refine zV rfl (bF h6_2) (zC rfl (zV rfl (bF h6_2) (zW (o := 1) rfl rfl (zV rfl (bF h6_2) (zd 3 (v := Vn (((zY s kl).getD RepD.zero).seq)) rfl rfl rfl rfl (zV rfl (bF h6_2) (xY rfl rfl rfl ?_)))))))
     exact yi rfl (fun _ hw => hw)
    refine zH rfl (zA (zU rfl (fun c3 => ?_) (fun c3 => ?_)))
    ·
     refine zB (yS (cs := [Vn 0, Vn 0, Vi 0, Vn 0, Vi 0, Vi 0]) (z := [Vn 0, Vn 0, Vi 0, Vn 0, Vi 0, Vi 0]) (pl := [(0, 1), (1, 1), (2, 1), (3, 1), (4, 1), (5, 1)]) (by kernel_rfl) (by kernel_rfl) rfl (zu 2 rfl rfl rfl (yC rfl) rfl (zH rfl (zA ?_))))
     exact zR (yW (cs := [Vn 0, Vn 0, Vi 0, Vn 0, Vi 0, Vi 0]) (v := Vi 8) rfl rfl rfl (by kernel_rfl) (Own.rowCells (i := 2) rfl) (fun w' hw => ⟨RepD.zero, 8, rfl, zJ7 c1 c2 c3, hw.sel [0, 1] rfl (by decide)⟩))
    ·
     refine zB (zC rfl (zW (o := 1) rfl rfl (zd 3 (v := Vn (((zY s kl).getD RepD.zero).seq)) rfl rfl rfl rfl (yO rfl rfl rfl (zH rfl (zA (zU rfl (fun c4 => ?_) (fun c4 => ?_))))))))
     ·
      refine zB (yS (cs := [Vn 0, Vn 0, Vi 0, Vn 0, Vi 0, Vi 0]) (z := [Vn 0, Vn 0, Vi 0, Vn 0, Vi 0, Vi 0]) (pl := [(0, 1), (1, 1), (2, 1), (3, 1), (4, 1), (5, 1)]) (by kernel_rfl) (by kernel_rfl) rfl (zu 2 rfl rfl rfl (yC rfl) rfl (zH rfl (zA ?_))))
      exact zR (yW (cs := [Vn 0, Vn 0, Vi 0, Vn 0, Vi 0, Vi 0]) (v := Vi 13) rfl rfl rfl (by kernel_rfl) (Own.rowCells (i := 2) rfl) (fun w' hw => ⟨RepD.zero, 13, rfl, zJR c1 c3 c4, hw.sel [0, 1] rfl (by decide)⟩))
     ·
      refine zL (zB (yk (cs := (RepD.cells ((zY s kl).getD RepD.zero))) 3 rfl rfl rfl (zu 2 rfl rfl rfl (yC rfl) rfl (zH rfl (zA ?_)))))
      exact zR (yW (cs := (RepD.cells ((zY s kl).getD RepD.zero))) (v := Vi 0) rfl rfl rfl (by kernel_rfl) (Own.rowCells (i := 2) rfl) (fun w' hw => ⟨(zY s kl).getD RepD.zero, 0, rfl, zJz c1 c3 c4, hw.sel [0, 1] rfl (by decide)⟩))
theorem zHU {S : List Nat} (b m : Nat) (kl : List (Nat × RepD)) (r : RepD) (w : World) (hx : r.wf) (hin : Own w S [Res.row b 89 [.map (some m)], Res.mp yM zq m kl] w) : Rets Try.prog 35 #[.pointer (some ⟨b, 0, none⟩), .agg (RepD.cells r).toArray] w fun u_ w' => ∃ (e : Int) (kl' : List (Nat × RepD)), u_ = Vi e ∧ e = jx r (zy kl r.session r.seq).2 ∧ kl' = kj kl r ∧ Own w S [Res.row b 89 [.map (some m)], Res.mp yM zq m kl'] w' := by
  refine zh Try.func35 rfl Try.ntmps35 hin ?_
  refine zB (yh rfl rfl (fun b3 => zH rfl (zA (zM (zB (zC rfl (xc (by kernel_rfl) rfl rfl rfl (zA (xm rfl (zL (zM (zB ?_))))))))))))
  refine yk (cs := (RepD.cells r)) 2 rfl rfl rfl (zQ rfl rfl (fun w' hw => (zEH r w' ‹_›).mono ?_))
  rintro _ w1 ⟨r1_, rfl, hO⟩
  refine (?_ : CL _ _ _ _ _ _ (Own w S [Res.row b 89 [.map (some m)], Res.mp yM zq m kl, Res.row b3 32 (RepD.cells r), Res.vec 5 1 r1_ (if r.ok then r.enc else []).length ((if r.ok then r.enc else []).map vb)])) w1 (hw.frame0 hO)
  refine zC rfl (zl (vs := [r1_, Vi (yR r.ok)]) rfl rfl rfl (zl (vs := [r1_, Vi (yR r.ok)]) rfl rfl rfl (zH rfl (zH rfl (zA (zB (zC rfl (jW rfl rfl rfl (zA (zU rfl (fun c2 => ?_) (fun c2 => ?_)))))))))))
  ·
   refine zB (zH rfl (zA ?_))
   exact zR (z3 (v := Vi 2) rfl rfl (fun w' hw => ⟨2, kl, rfl, (zIO c2 kl).1, (zIO c2 kl).2, hw.sel [0, 1] rfl (by decide)⟩))
  ·
   refine zL (zB (zC rfl (zW (o := 0) rfl rfl (zd 2 (v := Vn r.session) rfl rfl rfl rfl (zW (o := 1) rfl rfl (zd 2 (v := Vn r.seq) rfl rfl rfl rfl (zQ rfl rfl (fun w' hw => (zCc b m kl r.session r.seq w' (hw.give [0, 1] rfl (by decide))).mono ?_))))))))
   rintro _ w1 ⟨x2_, e3_, rfl, hf6_5, hO⟩
   have hfe : (zy kl r.session r.seq).2 = e3_ := congrArg Prod.snd hf6_5
   refine (?_ : CL _ _ _ _ _ _ (Own w S [Res.row b3 32 (RepD.cells r), Res.vec 5 1 r1_ (if r.ok then r.enc else []).length ((if r.ok then r.enc else []).map vb), Res.row b 89 [.map (some m)], Res.mp yM zq m kl])) w1 (hw.frameL [0, 1] rfl hO)
   refine zC rfl (zl (vs := [.agg (RepD.cells x2_).toArray, Vi e3_]) rfl rfl rfl (zl (vs := [.agg (RepD.cells x2_).toArray, Vi e3_]) rfl rfl rfl (yP (v := .agg #[Vn 0, Vn 0, Vi 0, Vn 0, Vi 0, Vi 0]) (by kernel_rfl) rfl (fun b7 => zu 4 rfl rfl rfl (yC rfl) rfl (zH rfl (zA (zB (zC rfl (zA (zS (zB (yr rfl rfl rfl ?_))))))))))))
   refine zH rfl (zA (zU rfl (fun c3 => ?_) (fun c3 => ?_)))
   ·
    refine zM (zX [0, 1, 2, 4] rfl (by decide) (by kernel_rfl) (fun w' hw hS => zE 0 rfl (zJ) hS (zE 1 rfl (zr rfl) hS (zE 2 rfl (zk (o := 0) rfl) hS (zE 3 rfl (zp 2 (v := .map (some m)) rfl rfl rfl) hS (zE 4 rfl (zk (o := 0) rfl) hS (zE 5 rfl (zp 0 (v := Vn r.session) rfl rfl rfl) hS (zE 6 rfl (zAz (cs := (RepD.cells r)) 0 rfl rfl) hS (zZ 7 rfl hw (zAZ 3 (k := r.session) (v := r) zJw zIn rfl rfl rfl rfl (zF [0, 1, 2, 4] rfl (by decide) (fun w' hw hS => zK ?_))))))))))))
    refine (?_ : C _ _ _ _ _ _ _ (Own w S [Res.row b3 32 (RepD.cells r), Res.vec 5 1 r1_ (if r.ok then r.enc else []).length ((if r.ok then r.enc else []).map vb), Res.row b 89 [.map (some m)], Res.mp yM zq m (yq r.session r kl), Res.row b7 32 (RepD.cells x2_)])) _ hw
    refine zB (zH rfl (zA ?_))
    exact zR (z3 (v := Vi 0) rfl rfl (fun w' hw => ⟨0, yq r.session r kl, rfl, (zIK c2 (hfe.trans c3)).1, (zIK c2 (hfe.trans c3)).2, hw.sel [2, 3] rfl (by decide)⟩))
   ·
    refine zB (yr rfl rfl rfl (zH rfl (zA (zU rfl (fun c4 => ?_) (fun c4 => ?_)))))
    ·
     refine zB (zH rfl (zA ?_))
     exact zR (z3 (v := Vi 9) rfl rfl (fun w' hw => ⟨9, kl, rfl, (zII c2 (hfe.trans c4)).1, (zII c2 (hfe.trans c4)).2, hw.sel [2, 3] rfl (by decide)⟩))
    ·
     refine zB (zC rfl (zH rfl (zA ?_)))
     exact zR (z3 (v := Vi e3_) rfl rfl (fun w' hw => ⟨e3_, kl, rfl, (zIR c2 hfe c3 c4).1, (zIR c2 hfe c3 c4).2, hw.sel [2, 3] rfl (by decide)⟩))
end Go.Proofs.Ytcdiehplbmkmeaa
