import Derived.Test.YthincafbmpialaaGreatLeC
import Derived.Test.YthincafbmpialaaGreatSortU4
import Derived.Test.YthincafbmpialaaGreatFwG
import Derived.Test.YthincafbmpialaaGreatQuotaP
set_option linter.unusedSectionVars false
set_option linter.unusedSimpArgs false
set_option linter.unusedVariables false
set_option maxRecDepth 10000
namespace Go.Proofs.YthincafbmpialaaGreat
open Go Go.Sc Go.Proofs
def zq (l : RepD) : Value := .agg l.cells.toArray
def yU (n : Nat) : Value := .int .u64 n
def RepD.zero : RepD := ⟨0, 0, 0, 0, 0, 0⟩
instance : Inhabited RepD := ⟨RepD.zero⟩
theorem zKm : KeyL Tryz.prog 28 yU := zEb (by kernel_rfl)
theorem zGt : kf Tryz.prog 112 = some (28, 43) := by kernel_rfl
theorem zK2 : jc Tryz.prog 43 = some (zq RepD.zero) := by kernel_rfl
def yV (kl : List (Nat × RepD)) (s q : Nat) : RepD × Int :=
  if s = 0 ∨ q = 0 then (RepD.zero, 1) else
  match zu s kl with
  | none => if 32 ≤ kl.length then (RepD.zero, 7) else (RepD.zero, 8)
  | some r => if r.seq < q then (RepD.zero, 8) else if q < r.seq then (RepD.zero, 13) else (r, 0)
def kg (r : RepD) (e : Int) : Int := if ¬ r.ok then 2 else if e = 8 then 0 else if e = 0 then 9 else e
def jx (kl : List (Nat × RepD)) (r : RepD) : List (Nat × RepD) := if r.ok ∧ (yV kl r.session r.seq).2 = 8 then xJ r.session r kl else kl
section
variable {kl : List (Nat × RepD)} {s q : Nat} {r : RepD}
theorem zKt (h : (((s : Nat) : Int) = ((0 : Nat) : Int)) ∨ (((q : Nat) : Int) = ((0 : Nat) : Int))) : yV kl s q = (RepD.zero, 1) := by
  unfold yV; rw [if_pos (by omega)]
theorem zMc (h : ¬ ((((s : Nat) : Int) = ((0 : Nat) : Int)) ∨ (((q : Nat) : Int) = ((0 : Nat) : Int)))) (h2 : (!(zu s kl).isSome) = true ∧ 32 ≤ ((kl.length : Nat) : Int)) : yV kl s q = (RepD.zero, 7) := by
  unfold yV
  rw [if_neg (by omega)]
  cases hg : zu s kl with
  | none => show (if 32 ≤ kl.length then _ else _) = _; rw [if_pos (by omega)]
  | some r => rw [hg] at h2; exact absurd h2.1 (by simp)
theorem zNF (h : ¬ ((((s : Nat) : Int) = ((0 : Nat) : Int)) ∨ (((q : Nat) : Int) = ((0 : Nat) : Int)))) (h2 : ¬ ((!(zu s kl).isSome) = true ∧ 32 ≤ ((kl.length : Nat) : Int))) (h3 : (!(zu s kl).isSome) = true ∨ ((((zu s kl).getD RepD.zero).seq : Nat) : Int) < ((q : Nat) : Int)) : yV kl s q = (RepD.zero, 8) := by
  unfold yV
  rw [if_neg (by omega)]
  cases hg : zu s kl with
  | none =>
    show (if 32 ≤ kl.length then _ else _) = _
    rw [if_neg fun q => h2 ⟨by rw [hg]; rfl, by omega⟩]
  | some r =>
    rw [hg, Option.getD_some] at h3
    have h3 : r.seq < q := by rcases h3 with h3 | h3; exact absurd h3 (by simp); omega
    show (if r.seq < q then _ else _) = _
    rw [if_pos h3]
theorem zDS {k : Nat} (h3 : ¬ ((!(zu s kl).isSome) = true ∨ ((((zu s kl).getD RepD.zero).seq : Nat) : Int) < ((k : Nat) : Int))) : ∃ r, zu s kl = some r ∧ ¬ r.seq < k := by
  cases hg : zu s kl with
  | none => exact absurd (.inl (by rw [hg]; rfl)) h3
  | some r => exact ⟨r, rfl, fun q => h3 (.inr (by rw [hg, Option.getD_some]; omega))⟩
theorem zMG (h : ¬ ((((s : Nat) : Int) = ((0 : Nat) : Int)) ∨ (((q : Nat) : Int) = ((0 : Nat) : Int)))) (h3 : ¬ ((!(zu s kl).isSome) = true ∨ ((((zu s kl).getD RepD.zero).seq : Nat) : Int) < ((q : Nat) : Int))) (h4 : ((q : Nat) : Int) < ((((zu s kl).getD RepD.zero).seq : Nat) : Int)) : yV kl s q = (RepD.zero, 13) := by
  obtain ⟨r, hr, h5⟩ := zDS h3
  unfold yV
  rw [if_neg (by omega), hr]
  rw [hr, Option.getD_some] at h4
  show (if r.seq < q then _ else if q < r.seq then _ else _) = _
  rw [if_neg h5, if_pos (by omega)]
theorem zMf (h : ¬ ((((s : Nat) : Int) = ((0 : Nat) : Int)) ∨ (((q : Nat) : Int) = ((0 : Nat) : Int)))) (h3 : ¬ ((!(zu s kl).isSome) = true ∨ ((((zu s kl).getD RepD.zero).seq : Nat) : Int) < ((q : Nat) : Int))) (h4 : ¬ ((q : Nat) : Int) < ((((zu s kl).getD RepD.zero).seq : Nat) : Int)) : yV kl s q = ((zu s kl).getD RepD.zero, 0) := by
  obtain ⟨r, hr, h5⟩ := zDS h3
  unfold yV
  rw [if_neg (by omega), hr]
  rw [hr, Option.getD_some] at h4
  show (if r.seq < q then _ else if q < r.seq then _ else _) = _
  rw [if_neg h5, if_neg (by omega)]; rfl
theorem zKz (h : yy r.ok ≠ 0) (kl : List (Nat × RepD)) : 2 = kg r (yV kl r.session r.seq).2 ∧ kl = jx kl r := by
  have hn : ¬ r.ok := fun k => h (errOf_zero.2 k)
  unfold kg jx
  rw [if_pos hn, if_neg fun k => hn k.1]
  exact ⟨rfl, rfl⟩
theorem zLC (h : ¬ yy r.ok ≠ 0) (he : (yV kl r.session r.seq).2 = 8) : 0 = kg r (yV kl r.session r.seq).2 ∧ xJ r.session r kl = jx kl r := by
  have hn : r.ok := errOf_zero.1 (Decidable.not_not.1 h)
  unfold kg jx
  rw [if_neg fun k => k hn, if_pos he, if_pos ⟨hn, he⟩]
  exact ⟨rfl, rfl⟩
theorem zK8 (h : ¬ yy r.ok ≠ 0) (he : (yV kl r.session r.seq).2 = 0) : 9 = kg r (yV kl r.session r.seq).2 ∧ kl = jx kl r := by
  have hn : r.ok := errOf_zero.1 (Decidable.not_not.1 h)
  unfold kg jx
  rw [if_neg fun k => k hn, he, if_neg (by decide), if_pos rfl, if_neg (by rintro ⟨_, k⟩; cases k)]
  exact ⟨rfl, rfl⟩
theorem zK4 {e : Int} (h : ¬ yy r.ok ≠ 0) (he : (yV kl r.session r.seq).2 = e) (h8 : ¬ e = 8) (h0 : ¬ e = 0) : e = kg r (yV kl r.session r.seq).2 ∧ kl = jx kl r := by
  have hn : r.ok := errOf_zero.1 (Decidable.not_not.1 h)
  unfold kg jx
  rw [if_neg fun k => k hn, he, if_neg h8, if_neg h0, if_neg fun k => h8 k.2]
  exact ⟨rfl, rfl⟩
end
theorem zMH (w : World) : Rets Tryz.prog 21 #[] w fun u_ w' => ∃ (b m : Nat), u_ = .pointer (some ⟨b, 0, none⟩) ∧ Own w [] [Res.row b 114 [.map (some m)], Res.mp yU zq m ([] : List (Nat × RepD))] w' := by
  refine zW Tryz.func21 rfl Tryz.ntmps21 (Own.start w) ?_
  refine zB (zD rfl (zA (zB (zBA (α := RepD) yU zq rfl rfl (fun m1 => yQ (cs := [.map (some m1)]) (z := [.map none]) (pl := [(0, 1)]) (by kernel_rfl) (by kernel_rfl) rfl (yc rfl rfl (fun b3 => zD rfl (zA ?_))))))))
  exact zM (z6 (v := .pointer (some ⟨b3, 0, none⟩)) rfl rfl (fun w' hw => ⟨b3, m1, rfl, hw.sel [1, 0] rfl (by decide)⟩))
theorem zDp {S : List Nat} (b m : Nat) (kl : List (Nat × RepD)) (s q : Nat) (w : World) (hin : Own w S [Res.row b 114 [.map (some m)], Res.mp yU zq m kl] w) : Rets Tryz.prog 26 #[.pointer (some ⟨b, 0, none⟩), Vn s, Vn q] w fun u_ w' => ∃ (x : RepD) (e : Int), u_ = .tuple #[.agg (RepD.cells x).toArray, Vi e] ∧ yV kl s q = (x, e) ∧ Own w S [Res.row b 114 [.map (some m)], Res.mp yU zq m kl] w' := by
  refine zW Tryz.func26 rfl Tryz.ntmps26 hin ?_
  refine zB (yF (v := .agg #[Vn 0, Vn 0, Vi 0, Vn 0, Vi 0, Vi 0]) (by kernel_rfl) rfl (fun b6 => zD rfl (zA (zL (zB (zC rfl (xE (by kernel_rfl) rfl rfl rfl (zC rfl (zO rfl rfl (zC rfl (zO rfl rfl (yo rfl rfl rfl ?_))))))))))))
  refine kL rfl rfl (zC rfl (yY (q := ((s : Nat) : Int) = ((0 : Nat) : Int)) 2 6 [18, 17] (((q : Nat) : Int) = ((0 : Nat) : Int)) rfl rfl rfl rfl rfl rfl trivial rfl (fun h1_6 => ?_) (fun g1_9 => ?_)))
  ·
   refine zO rfl (gF h1_6) (zC rfl (zO rfl (gF h1_6) (yo rfl rfl rfl ?_)))
   exact yL rfl (fun _ hw => hw)
  refine zA (zU rfl (fun c1 => ?_) (fun c1 => ?_))
  ·
   refine zB (yQ (cs := [Vn 0, Vn 0, Vi 0, Vn 0, Vi 0, Vi 0]) (z := [Vn 0, Vn 0, Vi 0, Vn 0, Vi 0, Vi 0]) (pl := [(0, 1), (1, 1), (2, 1), (3, 1), (4, 1), (5, 1)]) (by kernel_rfl) (by kernel_rfl) rfl (zh 2 rfl rfl rfl (z8 rfl) rfl (zD rfl (zA ?_))))
   exact zM (yH (cs := [Vn 0, Vn 0, Vi 0, Vn 0, Vi 0, Vi 0]) (v := Vi 1) rfl rfl rfl (by kernel_rfl) (Own.rowCells (i := 2) rfl) (fun w' hw => ⟨RepD.zero, 1, rfl, zKt c1, hw.sel [0, 1] rfl (by decide)⟩))
  ·
   refine zK (zB (zC rfl (zm rfl rfl (zP (o := 0) rfl rfl (zS 0 (v := .map (some m)) rfl rfl rfl rfl (zC rfl (zD9 (k := s) (kv := kl) (zv := RepD.zero) zKm zGt zK2 rfl rfl (fun w' hw' => Own.holds hw' 1 _ rfl) rfl (zC rfl (zp (vs := [.agg (RepD.cells ((zu s kl).getD RepD.zero)).toArray, .bool ((zu s kl).isSome)]) rfl rfl rfl (zp (vs := [.agg (RepD.cells ((zu s kl).getD RepD.zero)).toArray, .bool ((zu s kl).isSome)]) rfl rfl rfl (yF (v := .agg #[Vn 0, Vn 0, Vi 0, Vn 0, Vi 0, Vi 0]) (by kernel_rfl) rfl (fun b8 => zh 3 rfl rfl rfl (z8 rfl) rfl ?_))))))))))))
   refine zD rfl (zA (zL (zT (zB (zC rfl (kY (b := (zu s kl).isSome) rfl rfl (zC rfl (yP (q := (!((zu s kl).isSome)) = true) 6 2 [39, 38, 37, 36, 35, 34] (32 ≤ ((kl.length : Nat) : Int)) rfl rfl (yb _) rfl rfl rfl trivial rfl (fun h4_2 => ?_) (fun g4_9 => ?_)))))))))
   ·
    refine zO rfl (bT h4_2) (zC rfl (zO rfl (bT h4_2) (zm rfl rfl (zO rfl (bT h4_2) (zP (o := 0) rfl rfl (zO rfl (bT h4_2) (zS 0 (v := .map (some m)) rfl rfl rfl rfl (zO rfl (bT h4_2) (zD8 yU zq (kv := kl) zGt rfl (fun w' hw' => Own.holds hw' 1 _ rfl) rfl (zO rfl (bT h4_2) (xC rfl rfl rfl ?_)))))))))))
    exact yL rfl (fun _ hw => hw)
   refine zD rfl (zA (zU rfl (fun c2 => ?_) (fun c2 => ?_)))
   ·
    refine zB (yQ (cs := [Vn 0, Vn 0, Vi 0, Vn 0, Vi 0, Vi 0]) (z := [Vn 0, Vn 0, Vi 0, Vn 0, Vi 0, Vi 0]) (pl := [(0, 1), (1, 1), (2, 1), (3, 1), (4, 1), (5, 1)]) (by kernel_rfl) (by kernel_rfl) rfl (zh 2 rfl rfl rfl (z8 rfl) rfl (zD rfl (zA ?_))))
    exact zM (yH (cs := [Vn 0, Vn 0, Vi 0, Vn 0, Vi 0, Vi 0]) (v := Vi 7) rfl rfl rfl (by kernel_rfl) (Own.rowCells (i := 2) rfl) (fun w' hw => ⟨RepD.zero, 7, rfl, zMc c1 c2, hw.sel [0, 1] rfl (by decide)⟩))
   ·
    refine zB (zC rfl (kY (b := (zu s kl).isSome) rfl rfl (zC rfl (yY (q := (!((zu s kl).isSome)) = true) 4 2 [49, 48, 47, 46] (((((zu s kl).getD RepD.zero).seq : Nat) : Int) < ((q : Nat) : Int)) rfl rfl (yb _) rfl rfl rfl trivial rfl (fun h6_2 => ?_) (fun g6_7 => ?_)))))
    ·
     refine zO rfl (bF h6_2) (zC rfl (zO rfl (bF h6_2) (zP (o := 1) rfl rfl (zO rfl (bF h6_2) (zS 3 (v := Vn (((zu s kl).getD RepD.zero).seq)) rfl rfl rfl rfl (zO rfl (bF h6_2) (yg rfl rfl rfl ?_)))))))
     exact yL rfl (fun _ hw => hw)
    refine zD rfl (zA (zU rfl (fun c3 => ?_) (fun c3 => ?_)))
    ·
     refine zB (yQ (cs := [Vn 0, Vn 0, Vi 0, Vn 0, Vi 0, Vi 0]) (z := [Vn 0, Vn 0, Vi 0, Vn 0, Vi 0, Vi 0]) (pl := [(0, 1), (1, 1), (2, 1), (3, 1), (4, 1), (5, 1)]) (by kernel_rfl) (by kernel_rfl) rfl (zh 2 rfl rfl rfl (z8 rfl) rfl (zD rfl (zA ?_))))
     exact zM (yH (cs := [Vn 0, Vn 0, Vi 0, Vn 0, Vi 0, Vi 0]) (v := Vi 8) rfl rfl rfl (by kernel_rfl) (Own.rowCells (i := 2) rfl) (fun w' hw => ⟨RepD.zero, 8, rfl, zNF c1 c2 c3, hw.sel [0, 1] rfl (by decide)⟩))
    ·
     refine zB (zC rfl (zP (o := 1) rfl rfl (zS 3 (v := Vn (((zu s kl).getD RepD.zero).seq)) rfl rfl rfl rfl (yI rfl rfl rfl (zD rfl (zA (zU rfl (fun c4 => ?_) (fun c4 => ?_))))))))
     ·
      refine zB (yQ (cs := [Vn 0, Vn 0, Vi 0, Vn 0, Vi 0, Vi 0]) (z := [Vn 0, Vn 0, Vi 0, Vn 0, Vi 0, Vi 0]) (pl := [(0, 1), (1, 1), (2, 1), (3, 1), (4, 1), (5, 1)]) (by kernel_rfl) (by kernel_rfl) rfl (zh 2 rfl rfl rfl (z8 rfl) rfl (zD rfl (zA ?_))))
      exact zM (yH (cs := [Vn 0, Vn 0, Vi 0, Vn 0, Vi 0, Vi 0]) (v := Vi 13) rfl rfl rfl (by kernel_rfl) (Own.rowCells (i := 2) rfl) (fun w' hw => ⟨RepD.zero, 13, rfl, zMG c1 c3 c4, hw.sel [0, 1] rfl (by decide)⟩))
     ·
      refine zK (zB (yN (cs := (RepD.cells ((zu s kl).getD RepD.zero))) 3 rfl rfl rfl (zh 2 rfl rfl rfl (z8 rfl) rfl (zD rfl (zA ?_)))))
      exact zM (yH (cs := (RepD.cells ((zu s kl).getD RepD.zero))) (v := Vi 0) rfl rfl rfl (by kernel_rfl) (Own.rowCells (i := 2) rfl) (fun w' hw => ⟨(zu s kl).getD RepD.zero, 0, rfl, zMf c1 c3 c4, hw.sel [0, 1] rfl (by decide)⟩))
theorem zKl {S : List Nat} (b m : Nat) (kl : List (Nat × RepD)) (r : RepD) (w : World) (hx : r.wf) (hin : Own w S [Res.row b 114 [.map (some m)], Res.mp yU zq m kl] w) : Rets Tryz.prog 28 #[.pointer (some ⟨b, 0, none⟩), .agg (RepD.cells r).toArray] w fun u_ w' => ∃ (e : Int) (kl' : List (Nat × RepD)), u_ = Vi e ∧ e = kg r (yV kl r.session r.seq).2 ∧ kl' = jx kl r ∧ Own w S [Res.row b 114 [.map (some m)], Res.mp yU zq m kl'] w' := by
  refine zW Tryz.func28 rfl Tryz.ntmps28 hin ?_
  refine zB (yc rfl rfl (fun b3 => zD rfl (zA (zL (zB (zC rfl (xE (by kernel_rfl) rfl rfl rfl (zA (xQ rfl (zK (zL (zB ?_))))))))))))
  refine yN (cs := (RepD.cells r)) 2 rfl rfl rfl (zJ rfl rfl (fun w' hw => (zAv r w' ‹_›).mono ?_))
  rintro _ w1 ⟨r1_, rfl, hO⟩
  refine (?_ : CL _ _ _ _ _ _ (Own w S [Res.row b 114 [.map (some m)], Res.mp yU zq m kl, Res.row b3 43 (RepD.cells r), Res.vec 5 1 r1_ (if r.ok then r.enc else []).length ((if r.ok then r.enc else []).map vb)])) w1 (hw.frame0 hO)
  refine zC rfl (zp (vs := [r1_, Vi (yy r.ok)]) rfl rfl rfl (zp (vs := [r1_, Vi (yy r.ok)]) rfl rfl rfl (zD rfl (zD rfl (zA (zB (zC rfl (xn rfl rfl rfl (zA (zU rfl (fun c2 => ?_) (fun c2 => ?_)))))))))))
  ·
   refine zB (zD rfl (zA ?_))
   exact zM (z6 (v := Vi 2) rfl rfl (fun w' hw => ⟨2, kl, rfl, (zKz c2 kl).1, (zKz c2 kl).2, hw.sel [0, 1] rfl (by decide)⟩))
  ·
   refine zK (zB (zC rfl (zP (o := 0) rfl rfl (zS 2 (v := Vn r.session) rfl rfl rfl rfl (zP (o := 1) rfl rfl (zS 2 (v := Vn r.seq) rfl rfl rfl rfl (zJ rfl rfl (fun w' hw => (zDp b m kl r.session r.seq w' (hw.give [0, 1] rfl (by decide))).mono ?_))))))))
   rintro _ w1 ⟨x2_, e3_, rfl, hf6_5, hO⟩
   have hfe : (yV kl r.session r.seq).2 = e3_ := congrArg Prod.snd hf6_5
   refine (?_ : CL _ _ _ _ _ _ (Own w S [Res.row b3 43 (RepD.cells r), Res.vec 5 1 r1_ (if r.ok then r.enc else []).length ((if r.ok then r.enc else []).map vb), Res.row b 114 [.map (some m)], Res.mp yU zq m kl])) w1 (hw.frameL [0, 1] rfl hO)
   refine zC rfl (zp (vs := [.agg (RepD.cells x2_).toArray, Vi e3_]) rfl rfl rfl (zp (vs := [.agg (RepD.cells x2_).toArray, Vi e3_]) rfl rfl rfl (yF (v := .agg #[Vn 0, Vn 0, Vi 0, Vn 0, Vi 0, Vi 0]) (by kernel_rfl) rfl (fun b7 => zh 4 rfl rfl rfl (z8 rfl) rfl (zD rfl (zA (zB (zC rfl (zA (zT (zB (yo rfl rfl rfl ?_))))))))))))
   refine zD rfl (zA (zU rfl (fun c3 => ?_) (fun c3 => ?_)))
   ·
    refine zL (zg [0, 1, 2, 4] rfl (by decide) (by kernel_rfl) (fun w' hw hS => zF 0 rfl (zQ) hS (zF 1 rfl (z7 rfl) hS (zF 2 rfl (zi (o := 0) rfl) hS (zF 3 rfl (zo 2 (v := .map (some m)) rfl rfl rfl) hS (zF 4 rfl (zi (o := 0) rfl) hS (zF 5 rfl (zo 0 (v := Vn r.session) rfl rfl rfl) hS (zF 6 rfl (kI (cs := (RepD.cells r)) 0 rfl rfl) hS (zY 7 rfl hw (jP 3 (k := r.session) (v := r) zKm zGt rfl rfl rfl rfl (zG [0, 1, 2, 4] rfl (by decide) (fun w' hw hS => zR ?_))))))))))))
    refine (?_ : C _ _ _ _ _ _ _ (Own w S [Res.row b3 43 (RepD.cells r), Res.vec 5 1 r1_ (if r.ok then r.enc else []).length ((if r.ok then r.enc else []).map vb), Res.row b 114 [.map (some m)], Res.mp yU zq m (xJ r.session r kl), Res.row b7 43 (RepD.cells x2_)])) _ hw
    refine zB (zD rfl (zA ?_))
    exact zM (z6 (v := Vi 0) rfl rfl (fun w' hw => ⟨0, xJ r.session r kl, rfl, (zLC c2 (hfe.trans c3)).1, (zLC c2 (hfe.trans c3)).2, hw.sel [2, 3] rfl (by decide)⟩))
   ·
    refine zB (yo rfl rfl rfl (zD rfl (zA (zU rfl (fun c4 => ?_) (fun c4 => ?_)))))
    ·
     refine zB (zD rfl (zA ?_))
     exact zM (z6 (v := Vi 9) rfl rfl (fun w' hw => ⟨9, kl, rfl, (zK8 c2 (hfe.trans c4)).1, (zK8 c2 (hfe.trans c4)).2, hw.sel [2, 3] rfl (by decide)⟩))
    ·
     refine zB (zC rfl (zD rfl (zA ?_)))
     exact zM (z6 (v := Vi e3_) rfl rfl (fun w' hw => ⟨e3_, kl, rfl, (zK4 c2 hfe c3 c4).1, (zK4 c2 hfe c3 c4).2, hw.sel [2, 3] rfl (by decide)⟩))
theorem zHM {kl todo q1 q2 : List (Nat × RepD)} {xs : List Nat} {k : Nat} {v : RepD} (h : (xs ++ todo.map (·.1)).Perm (kl.map (·.1))) (hq : todo = q1 ++ (k, v) :: q2) : ((xs ++ [k]) ++ (q1 ++ q2).map (·.1)).Perm (kl.map (·.1)) := by
  refine List.Perm.trans ?_ h
  rw [hq, List.append_assoc]
  refine List.Perm.append_left _ ?_
  rw [List.map_append, List.map_append, List.map_cons]
  exact (List.perm_middle (l₁ := q1.map (·.1)) (l₂ := q2.map (·.1)) (a := k)).symm
theorem zKW {kl todo q1 q2 : List (Nat × RepD)} {xs : List Nat} {k : Nat} {v : RepD} (h : (xs ++ todo.map (·.1)).Perm (kl.map (·.1))) (hq : todo = q1 ++ (k, v) :: q2) : xs.length < kl.length := by
  have := h.length_eq
  rw [hq] at this
  simp at this; omega
theorem zIL (sb m : Nat) (kl : List (Nat × RepD)) : zFO Tryz.prog 122 [.pointer (some ⟨sb, 0, none⟩)] (fun x : Nat => Value.int .u64 (x : Nat)) (fun xs => xs.Perm (kl.map (·.1))) kl.length [Res.row sb 112 [.map (some m)], Res.mp yU zq m kl] := by
  intro ly J L0 w Y hJ hin
  refine xf (args := [.func (.yield ly) #[] #[], .pointer (some ⟨sb, 0, none⟩)]) Tryz.func122 rfl Tryz.ntmps122 rfl (show Own w (xZ ([Res.row sb 112 [.map (some m)], Res.mp yU zq m kl] ++ L0)) (Res.row sb 112 [.map (some m)] :: Res.mp yU zq m kl :: L0) w from hin) ?_
  refine zB (zS 0 (v := .map (some m)) rfl rfl rfl rfl (zAD 1 zGt rfl rfl rfl (fun r5 => zA (zT ?_))))
  refine xS (fun (todo : List (Nat × RepD)) (xs : List Nat) (Lr : List Res) => [(0, .func (.yield ly) #[] #[]), (5, .pointer (some ⟨r5, 0, none⟩))]) (fun (todo : List (Nat × RepD)) (xs : List Nat) (Lr : List Res) => (xs ++ todo.map (·.1)).Perm (kl.map (·.1)) ∧ J xs Lr) (fun (todo : List (Nat × RepD)) (xs : List Nat) (Lr : List Res) => (Res.row sb 112 [.map (some m)] :: Res.rg yU zq m r5 kl todo :: Lr)) (fun (todo : List (Nat × RepD)) (xs : List Nat) (Lr : List Res) => todo.length) (fun w' hw => ⟨kl, [], L0, ⟨rfl, rfl, trivial⟩, ⟨.refl _, hJ⟩, hw⟩) (fun todo xs Lr g hΦ => ?_)
  have hxp := hΦ.1
  have hJx := hΦ.2
  refine zB (zBC 1 rfl rfl rfl (fun hq0 => ?_) (fun q1 k v q2 hq1 => ?_))
  ·
   refine zp (vs := [.bool false]) rfl rfl rfl (zA (zL (xQ rfl ?_)))
   exact xA rfl (jq rfl (fun w' hw => ⟨xs, Lr, (by rw [hq0] at hxp; simpa using hxp), hJx, (Own.rgEnd 1 hw rfl)⟩))
  ·
   refine zp (vs := [.bool true, Vn k, .agg (RepD.cells v).toArray]) rfl rfl rfl (zA (zL (jz rfl (zK (zT (zB (zAP 1 rfl rfl rfl (zp (vs := [Vn k, .agg (RepD.cells v).toArray]) rfl rfl rfl (zD rfl (zA (zDv ?_)))))))))))
   refine kz rfl (zQ) ?_
   refine kz rfl (zQ) ?_
   refine zDy [Res.row sb 112 [.map (some m)], Res.rg yU zq m r5 kl (q1 ++ q2)] k Y rfl rfl hJx (zKW hxp hq1) rfl (fun Ly1_ hJLy1_ => ?_)
   refine kz rfl (zFQ (b := true) rfl) ?_
   refine zHf ?_
   refine xQ rfl ?_
   exact xj (fun w' hw => ⟨q1 ++ q2, xs ++ [k], Ly1_, ⟨rfl, rfl, trivial⟩, ⟨zHM hxp hq1, hJLy1_⟩, hw, (by rw [hq1, List.length_append, List.length_append, List.length_cons]; omega)⟩)
theorem zJf {S : List Nat} (m : Nat) (kl : List (Nat × RepD)) (w : World) (hin : Own w S [Res.mp yU zq m kl] w) : Rets Tryz.prog 90 #[.map (some m)] w fun u_ w' => ∃ (b : Nat), u_ = .func (.func 122) #[] #[.pointer (some ⟨b, 0, none⟩)] ∧ Own w S [Res.mp yU zq m kl, Res.row b 112 [.map (some m)]] w' := by
  refine zW Tryz.func90 rfl Tryz.ntmps90 hin ?_
  refine zB (yc rfl rfl (fun b1 => zD rfl (zA (zB (zIE (va := []) (vb := [.pointer (some ⟨b1, 0, none⟩)]) rfl rfl rfl (zD rfl (zA ?_)))))))
  exact zM (z6 (v := .func (.func 122) #[] #[.pointer (some ⟨b1, 0, none⟩)]) rfl rfl (fun w' hw => ⟨b1, rfl, hw⟩))
theorem zJN {Sx : List Nat → Prop} {N : Nat} {Ls : List Res} (sg : FuncId) (lb : List Value) (hcall : x4 Tryz.prog sg = true) (hseq : zFO Tryz.prog sg lb (fun x => Vn x) Sx N Ls) (hN : N ≤ 1000000000) (w : World) (hin : Own w (xZ Ls) Ls w) : Rets Tryz.prog 138 #[.slice none 0 0, .func (.func sg) #[] lb.toArray] w fun u_ w' => ∃ (v : Value) (xs : List Nat), u_ = v ∧ Sx xs ∧ Own w (xZ Ls) (Ls ++ [Res.vec 28 1 v xs.length (xs.flatMap U1)]) w' := by
  refine zBa (args := [.slice none 0 0, .func (.func sg) #[] lb.toArray]) Tryz.func138 rfl Tryz.ntmps138 rfl rfl rfl (show Own w (xZ Ls) Ls w from hin) ?_
  refine yc rfl rfl (fun b => ?_)
  refine zD rfl ?_
  refine zj (fun w1 hw => ?_)
  refine (?_ : CL _ _ _ _ _ _ (Own w (xZ Ls) (Ls ++ [Res.row b 103 [.slice none 0 0]]))) w1 hw
  refine zC rfl ?_
  refine zj (fun w2 hw => ?_)
  have hw2 := yK hw 28 1
  rw [List.append_assoc] at hw2
  refine zGS (enc := (fun x => Vn x)) (p := 7) (q := 5) (Ju := fun pre L => ∃ v, L = [Res.row b 103 [v], Res.vec 28 1 v pre.length (pre.flatMap U1)]) rfl hcall hseq ⟨.slice none 0 0, rfl⟩ hw2 rfl rfl rfl ?_ ?_ ?_
  · intro x w
    exact (zD rfl (zj (fun w' hw' => ⟨rfl, hw'⟩)) : CL _ _ _ _ _ _ (fun w' => w' = w)) w rfl
  · rintro pre x L w ⟨v, rfl⟩ hlen
    refine zS 0 (v := v) rfl rfl rfl rfl ?_
    refine zC rfl ?_
    refine yj (e := 28) (sz := 1) (vs := [Vn x]) (by kernel_rfl) rfl rfl (by simp [Value.cells]) (by decide) rfl (fun b10 => ?_)
    refine yu (g := U1) (sz := 1) (by' := 8) (fun _ => rfl) (l := pre) (l' := [x]) (by simp [cell1, U1]) 1 (by kernel_rfl) rfl rfl rfl (fun w' hw' => Vec.sl (Own.holds hw' 2 _ rfl)) (by first | omega | (simp; omega)) (by decide) rfl (fun v11 => ?_)
    refine yS (fun w' hw => Own.cell1Vec (i := 1) rfl hw) (fun hc1_ => ?_)
    refine yi (cs := [v]) 0 rfl rfl rfl hc1_ rfl ?_
    exact zj (fun w' hw => ⟨_, ⟨_, rfl⟩, hw.sel [0, 1] rfl (by decide)⟩)
  · rintro xs L' D w' hS ⟨v, rfl⟩ hO a ha
    have hO2 := hO.perm (List.Perm.cons _ (List.perm_append_comm))
    refine zF0 (v := v) rfl ?_ hO2 (fun w'' hO3 => ⟨v, xs, rfl, hS, ?_⟩) a ha
    · exact kz rfl (zGR 1 (v := v) rfl rfl rfl (by kernel_rfl)) (kz rfl yx (zIl (fun w' hw => ⟨rfl, hw⟩)))
    · exact (Own.tail hO3).perm (List.perm_append_comm (l₁ := [_]))
theorem zFo {S : List Nat} (b m : Nat) (kl : List (Nat × RepD)) (w : World) (hl : kl.length ≤ 1000000000) (hin : Own w S [Res.row b 112 [.map (some m)], Res.mp yU zq m kl] w) : Rets Tryz.prog 121 #[.func (.func 122) #[] #[.pointer (some ⟨b, 0, none⟩)]] w fun u_ w' => ∃ (v' : Value) (l' : List Nat), u_ = v' ∧ l'.Perm (kl.map (·.1)) ∧ Own w S [Res.row b 112 [.map (some m)], Res.mp yU zq m kl, Res.vec 28 1 v' l'.length (l'.flatMap U1)] w' := by
  refine zW Tryz.func121 rfl Tryz.ntmps121 hin ?_
  refine zB (zD rfl (zA (zB (zC rfl (zJ rfl rfl (fun w' hw => (zJN 122 [.pointer (some ⟨b, 0, none⟩)] (by kernel_rfl) (zIL b m kl) (by omega) w' (hw.give [0, 1] rfl (by decide))).mono ?_))))))
  rintro v1_ w1 ⟨_, xs2_, rfl, hf1_1, hO⟩
  refine (?_ : CL _ _ _ _ _ _ (Own w S [Res.row b 112 [.map (some m)], Res.mp yU zq m kl, Res.vec 28 1 v1_ xs2_.length (xs2_.flatMap U1)])) w1 (hw.frameL [0, 1] rfl hO)
  refine zD rfl (zA ?_)
  exact zM (z6 (v := v1_) rfl rfl (fun w' hw => ⟨v1_, xs2_, rfl, hf1_1, hw⟩))
theorem zGw {S : List Nat} (b m : Nat) (kl : List (Nat × RepD)) (w : World) (hl : kl.length ≤ 1000000000) (hin : Own w S [Res.row b 112 [.map (some m)], Res.mp yU zq m kl] w) : Rets Tryz.prog 89 #[.func (.func 122) #[] #[.pointer (some ⟨b, 0, none⟩)]] w fun u_ w' => ∃ (v' : Value) (l' : List Nat), u_ = v' ∧ l'.Perm (kl.map (·.1)) ∧ l'.Pairwise (fun x y => x ≤ y) ∧ Own w S [Res.row b 112 [.map (some m)], Res.mp yU zq m kl, Res.vec 28 1 v' l'.length (l'.flatMap U1)] w' := by
  refine zW Tryz.func89 rfl Tryz.ntmps89 hin ?_
  refine zB (zD rfl (zA (zB (zC rfl (zJ rfl rfl (fun w' hw => (zFo b m kl w' (by first | omega | (simp <;> omega)) (hw.give [0, 1] rfl (by decide))).mono ?_))))))
  rintro v'1_ w1 ⟨_, l'2_, rfl, hf1_1, hO⟩
  have hl1 : l'2_.length ≤ 1000000000 := by rw [hf1_1.length_eq, List.length_map]; exact hl
  refine (?_ : CL _ _ _ _ _ _ (Own w S [Res.row b 112 [.map (some m)], Res.mp yU zq m kl, Res.vec 28 1 v'1_ l'2_.length (l'2_.flatMap U1)])) w1 (hw.frameL [0, 1] rfl hO)
  refine zD rfl (zA (zB (zC rfl (zJ rfl rfl (fun w' hw => (zJD v'1_ l'2_ w' (by first | assumption | omega | (simp <;> omega) | (constructor <;> (first | omega | (simp only [zb]; omega) | (simp <;> omega)))) (hw.give [2] rfl (by decide))).mono ?_)))))
  rintro _ w1 ⟨l'3_, rfl, hf2_1, hf2_1_1, hO⟩
  refine (?_ : CL _ _ _ _ _ _ (Own w S [Res.row b 112 [.map (some m)], Res.mp yU zq m kl, Res.vec 28 1 v'1_ l'3_.length (l'3_.flatMap U1)])) w1 (hw.frameL [2] rfl hO)
  refine zA (zB (zC rfl (zD rfl (zA ?_))))
  exact zM (z6 (v := v'1_) rfl rfl (fun w' hw => ⟨v'1_, l'3_, rfl, hf2_1.trans hf1_1, hf2_1_1.imp (fun q => ole_nat.1 q), hw⟩))
theorem zMQ {S : List Nat} (b m : Nat) (kl : List (Nat × RepD)) (w : World) (hl : kl.length ≤ 1000000) (hin : Own w S [Res.row b 114 [.map (some m)], Res.mp yU zq m kl] w) : Rets Tryz.prog 52 #[.pointer (some ⟨b, 0, none⟩)] w fun u_ w' => ∃ (v : Value) (l : List RepD) (ks : List Nat), u_ = v ∧ ks.Perm (kl.map (·.1)) ∧ ks.Pairwise (fun x y => x ≤ y) ∧ l = ks.map (fun k => (zu k kl).getD RepD.zero) ∧ Own w S [Res.row b 114 [.map (some m)], Res.mp yU zq m kl, Res.vec 43 6 v l.length (l.flatMap RepD.cells)] w' := by
  refine zW Tryz.func52 rfl Tryz.ntmps52 hin ?_
  refine zB (zD rfl (zA (zL (zB (zC rfl (xE (by kernel_rfl) rfl rfl rfl (zA (xQ rfl (zK (zB (zD rfl (zA ?_))))))))))))
  refine zL (zB (zC rfl (zm rfl rfl (zP (o := 0) rfl rfl (zS 0 (v := .map (some m)) rfl rfl rfl rfl (zJ rfl rfl (fun w' hw => (zJf m kl w' (hw.give [1] rfl (by decide))).mono ?_)))))))
  rintro _ w1 ⟨b1_, rfl, hO⟩
  refine (?_ : CL _ _ _ _ _ _ (Own w S [Res.row b 114 [.map (some m)], Res.mp yU zq m kl, Res.row b1_ 112 [.map (some m)]])) w1 (hw.frameL [1] rfl hO)
  refine zJ rfl rfl (fun w' hw => (zGw b1_ m kl w' (by first | omega | (simp <;> omega)) (hw.give [2, 1] rfl (by decide))).mono ?_)
  rintro v'2_ w1 ⟨_, l'3_, rfl, hf4_5, hf4_5_1, hO⟩
  refine (?_ : CL _ _ _ _ _ _ (Own w S [Res.row b 114 [.map (some m)], Res.row b1_ 112 [.map (some m)], Res.mp yU zq m kl, Res.vec 28 1 v'2_ l'3_.length (l'3_.flatMap U1)])) w1 (hw.frameL [2, 1] rfl hO)
  refine yC (pV 3 rfl) rfl rfl (zC rfl (zA (zT ?_)))
  refine xS (fun (i : Nat) (v : Value) (l : List RepD) => [(0, .pointer (some ⟨b, 0, none⟩)), (3, v), (13, v'2_), (14, Vj l'3_.length), (15, Vj i)]) (fun (i : Nat) (v : Value) (l : List RepD) => i ≤ l'3_.length ∧ l = (l'3_.take i).map (fun k => (zu k kl).getD RepD.zero)) (fun (i : Nat) (v : Value) (l : List RepD) => [Res.row b 114 [.map (some m)], Res.row b1_ 112 [.map (some m)], Res.mp yU zq m kl, Res.vec 28 1 v'2_ l'3_.length (l'3_.flatMap U1), Res.vec 43 6 v l.length (l.flatMap RepD.cells)]) (fun (i : Nat) (v : Value) (l : List RepD) => l'3_.length - i) (fun w' hw => ⟨0, .slice none 0 0, [], ⟨rfl, rfl, rfl, rfl, rfl, trivial⟩, ⟨Nat.zero_le _, rfl⟩, (yK hw 43 6)⟩) (fun i v l g hΦ => ?_)
  have hi := hΦ.1
  have hlI := hΦ.2
  have hkl : l'3_.length = kl.length := by rw [hf4_5.length_eq, List.length_map]
  have hll : l.length ≤ 1000000 := by rw [hlI, List.length_map, List.length_take]; omega
  refine zB (yI rfl rfl rfl (zA (zL (zU rfl (fun c2 => ?_) (fun c2 => ?_)))))
  ·
   refine zK (zL (zT (zB (zH (pV 3 rfl) 1 i rfl rfl rfl (by omega) rfl (zV (pV 3 rfl) 1 i 0 (fun _ => rfl) rfl rfl (by omega) rfl rfl (zD rfl (zA (zd (zC rfl (zC rfl (zm rfl rfl (zP (o := 0) rfl rfl ?_))))))))))))
   refine zS 0 (v := .map (some m)) rfl rfl rfl rfl (zC rfl (zKv (k := (zI l'3_ i)) (kv := kl) (zv := RepD.zero) zKm zGt zK2 rfl rfl (fun w' hw' => Own.holds hw' 2 _ rfl) rfl (yj (e := 43) (sz := 6) (vs := [.agg (RepD.cells ((zu (zI l'3_ i) kl).getD RepD.zero)).toArray]) (by kernel_rfl) rfl rfl (by simp [Value.cells, RepD.cells]) (by decide) rfl (fun b26 => yu (g := RepD.cells) (sz := 6) (by' := 48) (fun _ => rfl) (l := l) (l' := [((zu (zI l'3_ i) kl).getD RepD.zero)]) (by simp [cell1, RepD.cells, vu]) 4 (by kernel_rfl) rfl rfl rfl (fun w' hw' => Vec.sl (Own.holds hw' 5 _ rfl)) (by first | omega | (simp; omega)) (by decide) rfl (fun v27 => zD rfl (zA (zd (zt rfl rfl (zr (by omega)) rfl (zC rfl ?_)))))))))
   exact zj (fun w' hw => ⟨i + 1, v27, l ++ [(zu (zI l'3_ i) kl).getD RepD.zero], ⟨rfl, rfl, rfl, rfl, rfl, trivial⟩, ⟨by omega, by rw [hlI, yB (by omega), List.map_append]; rfl⟩, hw.sel [0, 1, 2, 3, 4] rfl (by decide), (by omega)⟩)
  ·
   refine yG rfl (zB (zC rfl (zD rfl (zA ?_))))
   exact zM (z6 (v := v) rfl rfl (fun w' hw => ⟨v, l, l'3_, rfl, hf4_5, hf4_5_1, (by rw [hlI, List.take_of_length_le (by omega)]), hw.sel [0, 2, 4] rfl (by decide)⟩))
end Go.Proofs.YthincafbmpialaaGreat
