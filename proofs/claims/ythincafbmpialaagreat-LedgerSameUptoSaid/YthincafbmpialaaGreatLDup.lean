import Derived.Test.YthincafbmpialaaGreatLeC
import Derived.Test.YthincafbmpialaaGreatSortU4
import Derived.Test.YthincafbmpialaaGreatFwG
import Derived.Test.YthincafbmpialaaGreatQuotaP
set_option linter.unusedSectionVars false
set_option linter.unusedSimpArgs false
set_option linter.unusedVariables false
set_option maxRecDepth 10000
namespace Go.Proofs.YthincafbmpialaaGreat
open Go Go.Sc Go.Proofs
def zh (l : RepD) : Value := .agg l.cells.toArray
def yE (n : Nat) : Value := .int .u64 n
def RepD.zero : RepD := ⟨0, 0, 0, 0, 0, 0⟩
instance : Inhabited RepD := ⟨RepD.zero⟩
theorem zIu : KeyL Tryz.prog 28 yE := zEB (by kernel_rfl)
theorem zGJ : kT Tryz.prog 112 = some (28, 43) := by kernel_rfl
theorem zJl : jK Tryz.prog 43 = some (zh RepD.zero) := by kernel_rfl
def yN (kl : List (Nat × RepD)) (s q : Nat) : RepD × Int :=
  if s = 0 ∨ q = 0 then (RepD.zero, 1) else
  match zm s kl with
  | none => if 32 ≤ kl.length then (RepD.zero, 7) else (RepD.zero, 8)
  | some r => if r.seq < q then (RepD.zero, 8) else if q < r.seq then (RepD.zero, 13) else (r, 0)
def zBG (r : RepD) (e : Int) : Int := if ¬ r.ok then 2 else if e = 8 then 0 else if e = 0 then 9 else e
def jd (kl : List (Nat × RepD)) (r : RepD) : List (Nat × RepD) := if r.ok ∧ (yN kl r.session r.seq).2 = 8 then y5 r.session r kl else kl
section
variable {kl : List (Nat × RepD)} {s q : Nat} {r : RepD}
theorem zLq (h : (((s : Nat) : Int) = ((0 : Nat) : Int)) ∨ (((q : Nat) : Int) = ((0 : Nat) : Int))) : yN kl s q = (RepD.zero, 1) := by
  unfold yN; rw [if_pos (by omega)]
theorem zMA (h : ¬ ((((s : Nat) : Int) = ((0 : Nat) : Int)) ∨ (((q : Nat) : Int) = ((0 : Nat) : Int)))) (h2 : (!(zm s kl).isSome) = true ∧ 32 ≤ ((kl.length : Nat) : Int)) : yN kl s q = (RepD.zero, 7) := by
  unfold yN
  rw [if_neg (by omega)]
  cases hg : zm s kl with
  | none => show (if 32 ≤ kl.length then _ else _) = _; rw [if_pos (by omega)]
  | some r => rw [hg] at h2; exact absurd h2.1 (by simp)
theorem zLK (h : ¬ ((((s : Nat) : Int) = ((0 : Nat) : Int)) ∨ (((q : Nat) : Int) = ((0 : Nat) : Int)))) (h2 : ¬ ((!(zm s kl).isSome) = true ∧ 32 ≤ ((kl.length : Nat) : Int))) (h3 : (!(zm s kl).isSome) = true ∨ ((((zm s kl).getD RepD.zero).seq : Nat) : Int) < ((q : Nat) : Int)) : yN kl s q = (RepD.zero, 8) := by
  unfold yN
  rw [if_neg (by omega)]
  cases hg : zm s kl with
  | none =>
    show (if 32 ≤ kl.length then _ else _) = _
    rw [if_neg fun q => h2 ⟨by rw [hg]; rfl, by omega⟩]
  | some r =>
    rw [hg, Option.getD_some] at h3
    have h3 : r.seq < q := by rcases h3 with h3 | h3; exact absurd h3 (by simp); omega
    show (if r.seq < q then _ else _) = _
    rw [if_pos h3]
theorem zCy {k : Nat} (h3 : ¬ ((!(zm s kl).isSome) = true ∨ ((((zm s kl).getD RepD.zero).seq : Nat) : Int) < ((k : Nat) : Int))) : ∃ r, zm s kl = some r ∧ ¬ r.seq < k := by
  cases hg : zm s kl with
  | none => exact absurd (.inl (by rw [hg]; rfl)) h3
  | some r => exact ⟨r, rfl, fun q => h3 (.inr (by rw [hg, Option.getD_some]; omega))⟩
theorem zKx (h : ¬ ((((s : Nat) : Int) = ((0 : Nat) : Int)) ∨ (((q : Nat) : Int) = ((0 : Nat) : Int)))) (h3 : ¬ ((!(zm s kl).isSome) = true ∨ ((((zm s kl).getD RepD.zero).seq : Nat) : Int) < ((q : Nat) : Int))) (h4 : ((q : Nat) : Int) < ((((zm s kl).getD RepD.zero).seq : Nat) : Int)) : yN kl s q = (RepD.zero, 13) := by
  obtain ⟨r, hr, h5⟩ := zCy h3
  unfold yN
  rw [if_neg (by omega), hr]
  rw [hr, Option.getD_some] at h4
  show (if r.seq < q then _ else if q < r.seq then _ else _) = _
  rw [if_neg h5, if_pos (by omega)]
theorem zLa (h : ¬ ((((s : Nat) : Int) = ((0 : Nat) : Int)) ∨ (((q : Nat) : Int) = ((0 : Nat) : Int)))) (h3 : ¬ ((!(zm s kl).isSome) = true ∨ ((((zm s kl).getD RepD.zero).seq : Nat) : Int) < ((q : Nat) : Int))) (h4 : ¬ ((q : Nat) : Int) < ((((zm s kl).getD RepD.zero).seq : Nat) : Int)) : yN kl s q = ((zm s kl).getD RepD.zero, 0) := by
  obtain ⟨r, hr, h5⟩ := zCy h3
  unfold yN
  rw [if_neg (by omega), hr]
  rw [hr, Option.getD_some] at h4
  show (if r.seq < q then _ else if q < r.seq then _ else _) = _
  rw [if_neg h5, if_neg (by omega)]; rfl
theorem zJz (h : yg r.ok ≠ 0) (kl : List (Nat × RepD)) : 2 = zBG r (yN kl r.session r.seq).2 ∧ kl = jd kl r := by
  have hn : ¬ r.ok := fun k => h (errOf_zero.2 k)
  unfold zBG jd
  rw [if_pos hn, if_neg fun k => hn k.1]
  exact ⟨rfl, rfl⟩
theorem zJx (h : ¬ yg r.ok ≠ 0) (he : (yN kl r.session r.seq).2 = 8) : 0 = zBG r (yN kl r.session r.seq).2 ∧ y5 r.session r kl = jd kl r := by
  have hn : r.ok := errOf_zero.1 (Decidable.not_not.1 h)
  unfold zBG jd
  rw [if_neg fun k => k hn, if_pos he, if_pos ⟨hn, he⟩]
  exact ⟨rfl, rfl⟩
theorem zJr (h : ¬ yg r.ok ≠ 0) (he : (yN kl r.session r.seq).2 = 0) : 9 = zBG r (yN kl r.session r.seq).2 ∧ kl = jd kl r := by
  have hn : r.ok := errOf_zero.1 (Decidable.not_not.1 h)
  unfold zBG jd
  rw [if_neg fun k => k hn, he, if_neg (by decide), if_pos rfl, if_neg (by rintro ⟨_, k⟩; cases k)]
  exact ⟨rfl, rfl⟩
theorem zJ5 {e : Int} (h : ¬ yg r.ok ≠ 0) (he : (yN kl r.session r.seq).2 = e) (h8 : ¬ e = 8) (h0 : ¬ e = 0) : e = zBG r (yN kl r.session r.seq).2 ∧ kl = jd kl r := by
  have hn : r.ok := errOf_zero.1 (Decidable.not_not.1 h)
  unfold zBG jd
  rw [if_neg fun k => k hn, he, if_neg h8, if_neg h0, if_neg fun k => h8 k.2]
  exact ⟨rfl, rfl⟩
end
theorem zLF (w : World) : Rets Tryz.prog 21 #[] w fun u_ w' => ∃ (b m : Nat), u_ = .pointer (some ⟨b, 0, none⟩) ∧ Own w [] [Res.row b 114 [.map (some m)], Res.mp yE zh m ([] : List (Nat × RepD))] w' := by
  refine zb Tryz.func21 rfl Tryz.ntmps21 (Own.start w) ?_
  refine zB (zD rfl (zA (zB (zBA (α := RepD) yE zh rfl rfl (fun m1 => yn (cs := [.map (some m1)]) (z := [.map none]) (pl := [(0, 1)]) (by kernel_rfl) (by kernel_rfl) rfl (yb rfl rfl (fun b3 => zD rfl (zA ?_))))))))
  exact zP (z8 (v := .pointer (some ⟨b3, 0, none⟩)) rfl rfl (fun w' hw => ⟨b3, m1, rfl, hw.sel [1, 0] rfl (by decide)⟩))
theorem zDO {S : List Nat} (b m : Nat) (kl : List (Nat × RepD)) (s q : Nat) (w : World) (hin : Own w S [Res.row b 114 [.map (some m)], Res.mp yE zh m kl] w) : Rets Tryz.prog 26 #[.pointer (some ⟨b, 0, none⟩), Vn s, Vn q] w fun u_ w' => ∃ (x : RepD) (e : Int), u_ = .tuple #[.agg (RepD.cells x).toArray, Vi e] ∧ yN kl s q = (x, e) ∧ Own w S [Res.row b 114 [.map (some m)], Res.mp yE zh m kl] w' := by
  refine zb Tryz.func26 rfl Tryz.ntmps26 hin ?_
  refine zB (yL (v := .agg #[Vn 0, Vn 0, Vi 0, Vn 0, Vi 0, Vi 0]) (by kernel_rfl) rfl (fun b6 => zD rfl (zA (zL (zB (zC rfl (yz (by kernel_rfl) rfl rfl rfl (zC rfl (zS rfl rfl (zC rfl (zS rfl rfl (xM rfl rfl rfl ?_))))))))))))
  refine xo rfl rfl (zC rfl (y6 (q := ((s : Nat) : Int) = ((0 : Nat) : Int)) 2 6 [18, 17] (((q : Nat) : Int) = ((0 : Nat) : Int)) rfl rfl rfl rfl rfl rfl trivial rfl (fun h1_6 => ?_) (fun g1_9 => ?_)))
  ·
   refine zS rfl (gF h1_6) (zC rfl (zS rfl (gF h1_6) (xM rfl rfl rfl ?_)))
   exact ya rfl (fun _ hw => hw)
  refine zA (zZ rfl (fun c1 => ?_) (fun c1 => ?_))
  ·
   refine zB (yn (cs := [Vn 0, Vn 0, Vi 0, Vn 0, Vi 0, Vi 0]) (z := [Vn 0, Vn 0, Vi 0, Vn 0, Vi 0, Vi 0]) (pl := [(0, 1), (1, 1), (2, 1), (3, 1), (4, 1), (5, 1)]) (by kernel_rfl) (by kernel_rfl) rfl (zo 2 rfl rfl rfl (yI rfl) rfl (zD rfl (zA ?_))))
   exact zP (yf (cs := [Vn 0, Vn 0, Vi 0, Vn 0, Vi 0, Vi 0]) (v := Vi 1) rfl rfl rfl (by kernel_rfl) (Own.rowCells (i := 2) rfl) (fun w' hw => ⟨RepD.zero, 1, rfl, zLq c1, hw.sel [0, 1] rfl (by decide)⟩))
  ·
   refine zM (zB (zC rfl (zr rfl rfl (zX (o := 0) rfl rfl (zY 0 (v := .map (some m)) rfl rfl rfl rfl (zC rfl (zDW (k := s) (kv := kl) (zv := RepD.zero) zIu zGJ zJl rfl rfl (fun w' hw' => Own.holds hw' 1 _ rfl) rfl (zC rfl (zp (vs := [.agg (RepD.cells ((zm s kl).getD RepD.zero)).toArray, .bool ((zm s kl).isSome)]) rfl rfl rfl (zp (vs := [.agg (RepD.cells ((zm s kl).getD RepD.zero)).toArray, .bool ((zm s kl).isSome)]) rfl rfl rfl (yL (v := .agg #[Vn 0, Vn 0, Vi 0, Vn 0, Vi 0, Vi 0]) (by kernel_rfl) rfl (fun b8 => zo 3 rfl rfl rfl (yI rfl) rfl ?_))))))))))))
   refine zD rfl (zA (zL (zQ (zB (zC rfl (zAS (b := (zm s kl).isSome) rfl rfl (zC rfl (yW (q := (!((zm s kl).isSome)) = true) 6 2 [39, 38, 37, 36, 35, 34] (32 ≤ ((kl.length : Nat) : Int)) rfl rfl (yr _) rfl rfl rfl trivial rfl (fun h4_2 => ?_) (fun g4_9 => ?_)))))))))
   ·
    refine zS rfl (bT h4_2) (zC rfl (zS rfl (bT h4_2) (zr rfl rfl (zS rfl (bT h4_2) (zX (o := 0) rfl rfl (zS rfl (bT h4_2) (zY 0 (v := .map (some m)) rfl rfl rfl rfl (zS rfl (bT h4_2) (zDj yE zh (kv := kl) zGJ rfl (fun w' hw' => Own.holds hw' 1 _ rfl) rfl (zS rfl (bT h4_2) (xG rfl rfl rfl ?_)))))))))))
    exact ya rfl (fun _ hw => hw)
   refine zD rfl (zA (zZ rfl (fun c2 => ?_) (fun c2 => ?_)))
   ·
    refine zB (yn (cs := [Vn 0, Vn 0, Vi 0, Vn 0, Vi 0, Vi 0]) (z := [Vn 0, Vn 0, Vi 0, Vn 0, Vi 0, Vi 0]) (pl := [(0, 1), (1, 1), (2, 1), (3, 1), (4, 1), (5, 1)]) (by kernel_rfl) (by kernel_rfl) rfl (zo 2 rfl rfl rfl (yI rfl) rfl (zD rfl (zA ?_))))
    exact zP (yf (cs := [Vn 0, Vn 0, Vi 0, Vn 0, Vi 0, Vi 0]) (v := Vi 7) rfl rfl rfl (by kernel_rfl) (Own.rowCells (i := 2) rfl) (fun w' hw => ⟨RepD.zero, 7, rfl, zMA c1 c2, hw.sel [0, 1] rfl (by decide)⟩))
   ·
    refine zB (zC rfl (zAS (b := (zm s kl).isSome) rfl rfl (zC rfl (y6 (q := (!((zm s kl).isSome)) = true) 4 2 [49, 48, 47, 46] (((((zm s kl).getD RepD.zero).seq : Nat) : Int) < ((q : Nat) : Int)) rfl rfl (yr _) rfl rfl rfl trivial rfl (fun h6_2 => ?_) (fun g6_7 => ?_)))))
    ·
     refine zS rfl (bF h6_2) (zC rfl (zS rfl (bF h6_2) (zX (o := 1) rfl rfl (zS rfl (bF h6_2) (zY 3 (v := Vn (((zm s kl).getD RepD.zero).seq)) rfl rfl rfl rfl (zS rfl (bF h6_2) (y9 rfl rfl rfl ?_)))))))
     exact ya rfl (fun _ hw => hw)
    refine zD rfl (zA (zZ rfl (fun c3 => ?_) (fun c3 => ?_)))
    ·
     refine zB (yn (cs := [Vn 0, Vn 0, Vi 0, Vn 0, Vi 0, Vi 0]) (z := [Vn 0, Vn 0, Vi 0, Vn 0, Vi 0, Vi 0]) (pl := [(0, 1), (1, 1), (2, 1), (3, 1), (4, 1), (5, 1)]) (by kernel_rfl) (by kernel_rfl) rfl (zo 2 rfl rfl rfl (yI rfl) rfl (zD rfl (zA ?_))))
     exact zP (yf (cs := [Vn 0, Vn 0, Vi 0, Vn 0, Vi 0, Vi 0]) (v := Vi 8) rfl rfl rfl (by kernel_rfl) (Own.rowCells (i := 2) rfl) (fun w' hw => ⟨RepD.zero, 8, rfl, zLK c1 c2 c3, hw.sel [0, 1] rfl (by decide)⟩))
    ·
     refine zB (zC rfl (zX (o := 1) rfl rfl (zY 3 (v := Vn (((zm s kl).getD RepD.zero).seq)) rfl rfl rfl rfl (yZ rfl rfl rfl (zD rfl (zA (zZ rfl (fun c4 => ?_) (fun c4 => ?_))))))))
     ·
      refine zB (yn (cs := [Vn 0, Vn 0, Vi 0, Vn 0, Vi 0, Vi 0]) (z := [Vn 0, Vn 0, Vi 0, Vn 0, Vi 0, Vi 0]) (pl := [(0, 1), (1, 1), (2, 1), (3, 1), (4, 1), (5, 1)]) (by kernel_rfl) (by kernel_rfl) rfl (zo 2 rfl rfl rfl (yI rfl) rfl (zD rfl (zA ?_))))
      exact zP (yf (cs := [Vn 0, Vn 0, Vi 0, Vn 0, Vi 0, Vi 0]) (v := Vi 13) rfl rfl rfl (by kernel_rfl) (Own.rowCells (i := 2) rfl) (fun w' hw => ⟨RepD.zero, 13, rfl, zKx c1 c3 c4, hw.sel [0, 1] rfl (by decide)⟩))
     ·
      refine zM (zB (yd (cs := (RepD.cells ((zm s kl).getD RepD.zero))) 3 rfl rfl rfl (zo 2 rfl rfl rfl (yI rfl) rfl (zD rfl (zA ?_)))))
      exact zP (yf (cs := (RepD.cells ((zm s kl).getD RepD.zero))) (v := Vi 0) rfl rfl rfl (by kernel_rfl) (Own.rowCells (i := 2) rfl) (fun w' hw => ⟨(zm s kl).getD RepD.zero, 0, rfl, zLa c1 c3 c4, hw.sel [0, 1] rfl (by decide)⟩))
theorem zJh {S : List Nat} (b m : Nat) (kl : List (Nat × RepD)) (r : RepD) (w : World) (hx : r.wf) (hin : Own w S [Res.row b 114 [.map (some m)], Res.mp yE zh m kl] w) : Rets Tryz.prog 28 #[.pointer (some ⟨b, 0, none⟩), .agg (RepD.cells r).toArray] w fun u_ w' => ∃ (e : Int) (kl' : List (Nat × RepD)), u_ = Vi e ∧ e = zBG r (yN kl r.session r.seq).2 ∧ kl' = jd kl r ∧ Own w S [Res.row b 114 [.map (some m)], Res.mp yE zh m kl'] w' := by
  refine zb Tryz.func28 rfl Tryz.ntmps28 hin ?_
  refine zB (yb rfl rfl (fun b3 => zD rfl (zA (zL (zB (zC rfl (yz (by kernel_rfl) rfl rfl rfl (zA (xO rfl (zM (zL (zB ?_))))))))))))
  refine yd (cs := (RepD.cells r)) 2 rfl rfl rfl (zK rfl rfl (fun w' hw => (zAu r w' ‹_›).mono ?_))
  rintro _ w1 ⟨r1_, rfl, hO⟩
  refine (?_ : CL _ _ _ _ _ _ (Own w S [Res.row b 114 [.map (some m)], Res.mp yE zh m kl, Res.row b3 43 (RepD.cells r), Res.vec 5 1 r1_ (if r.ok then r.enc else []).length ((if r.ok then r.enc else []).map vb)])) w1 (hw.frame0 hO)
  refine zC rfl (zp (vs := [r1_, Vi (yg r.ok)]) rfl rfl rfl (zp (vs := [r1_, Vi (yg r.ok)]) rfl rfl rfl (zD rfl (zD rfl (zA (zB (zC rfl (kU rfl rfl rfl (zA (zZ rfl (fun c2 => ?_) (fun c2 => ?_)))))))))))
  ·
   refine zB (zD rfl (zA ?_))
   exact zP (z8 (v := Vi 2) rfl rfl (fun w' hw => ⟨2, kl, rfl, (zJz c2 kl).1, (zJz c2 kl).2, hw.sel [0, 1] rfl (by decide)⟩))
  ·
   refine zM (zB (zC rfl (zX (o := 0) rfl rfl (zY 2 (v := Vn r.session) rfl rfl rfl rfl (zX (o := 1) rfl rfl (zY 2 (v := Vn r.seq) rfl rfl rfl rfl (zK rfl rfl (fun w' hw => (zDO b m kl r.session r.seq w' (hw.give [0, 1] rfl (by decide))).mono ?_))))))))
   rintro _ w1 ⟨x2_, e3_, rfl, hf6_5, hO⟩
   have hfe : (yN kl r.session r.seq).2 = e3_ := congrArg Prod.snd hf6_5
   refine (?_ : CL _ _ _ _ _ _ (Own w S [Res.row b3 43 (RepD.cells r), Res.vec 5 1 r1_ (if r.ok then r.enc else []).length ((if r.ok then r.enc else []).map vb), Res.row b 114 [.map (some m)], Res.mp yE zh m kl])) w1 (hw.frameL [0, 1] rfl hO)
   refine zC rfl (zp (vs := [.agg (RepD.cells x2_).toArray, Vi e3_]) rfl rfl rfl (zp (vs := [.agg (RepD.cells x2_).toArray, Vi e3_]) rfl rfl rfl (yL (v := .agg #[Vn 0, Vn 0, Vi 0, Vn 0, Vi 0, Vi 0]) (by kernel_rfl) rfl (fun b7 => zo 4 rfl rfl rfl (yI rfl) rfl (zD rfl (zA (zB (zC rfl (zA (zQ (zB (xM rfl rfl rfl ?_))))))))))))
   refine zD rfl (zA (zZ rfl (fun c3 => ?_) (fun c3 => ?_)))
   ·
    refine zL (zi [0, 1, 2, 4] rfl (by decide) (by kernel_rfl) (fun w' hw hS => zG 0 rfl (zN) hS (zG 1 rfl (yJ rfl) hS (zG 2 rfl (zy (o := 0) rfl) hS (zG 3 rfl (z7 2 (v := .map (some m)) rfl rfl rfl) hS (zG 4 rfl (zy (o := 0) rfl) hS (zG 5 rfl (z7 0 (v := Vn r.session) rfl rfl rfl) hS (zG 6 rfl (je (cs := (RepD.cells r)) 0 rfl rfl) hS (ze 7 rfl hw (k8 3 (k := r.session) (v := r) zIu zGJ rfl rfl rfl rfl (zF [0, 1, 2, 4] rfl (by decide) (fun w' hw hS => zO ?_))))))))))))
    refine (?_ : C _ _ _ _ _ _ _ (Own w S [Res.row b3 43 (RepD.cells r), Res.vec 5 1 r1_ (if r.ok then r.enc else []).length ((if r.ok then r.enc else []).map vb), Res.row b 114 [.map (some m)], Res.mp yE zh m (y5 r.session r kl), Res.row b7 43 (RepD.cells x2_)])) _ hw
    refine zB (zD rfl (zA ?_))
    exact zP (z8 (v := Vi 0) rfl rfl (fun w' hw => ⟨0, y5 r.session r kl, rfl, (zJx c2 (hfe.trans c3)).1, (zJx c2 (hfe.trans c3)).2, hw.sel [2, 3] rfl (by decide)⟩))
   ·
    refine zB (xM rfl rfl rfl (zD rfl (zA (zZ rfl (fun c4 => ?_) (fun c4 => ?_)))))
    ·
     refine zB (zD rfl (zA ?_))
     exact zP (z8 (v := Vi 9) rfl rfl (fun w' hw => ⟨9, kl, rfl, (zJr c2 (hfe.trans c4)).1, (zJr c2 (hfe.trans c4)).2, hw.sel [2, 3] rfl (by decide)⟩))
    ·
     refine zB (zC rfl (zD rfl (zA ?_)))
     exact zP (z8 (v := Vi e3_) rfl rfl (fun w' hw => ⟨e3_, kl, rfl, (zJ5 c2 hfe c3 c4).1, (zJ5 c2 hfe c3 c4).2, hw.sel [2, 3] rfl (by decide)⟩))
theorem zGE {kl todo q1 q2 : List (Nat × RepD)} {xs : List Nat} {k : Nat} {v : RepD} (h : (xs ++ todo.map (·.1)).Perm (kl.map (·.1))) (hq : todo = q1 ++ (k, v) :: q2) : ((xs ++ [k]) ++ (q1 ++ q2).map (·.1)).Perm (kl.map (·.1)) := by
  refine List.Perm.trans ?_ h
  rw [hq, List.append_assoc]
  refine List.Perm.append_left _ ?_
  rw [List.map_append, List.map_append, List.map_cons]
  exact (List.perm_middle (l₁ := q1.map (·.1)) (l₂ := q2.map (·.1)) (a := k)).symm
theorem zJV {kl todo q1 q2 : List (Nat × RepD)} {xs : List Nat} {k : Nat} {v : RepD} (h : (xs ++ todo.map (·.1)).Perm (kl.map (·.1))) (hq : todo = q1 ++ (k, v) :: q2) : xs.length < kl.length := by
  have := h.length_eq
  rw [hq] at this
  simp at this; omega
theorem zG1 (sb m : Nat) (kl : List (Nat × RepD)) : zD6 Tryz.prog 122 [.pointer (some ⟨sb, 0, none⟩)] (fun x : Nat => Value.int .u64 (x : Nat)) (fun xs => xs.Perm (kl.map (·.1))) kl.length [Res.row sb 112 [.map (some m)], Res.mp yE zh m kl] := by
  intro ly J L0 w Y hJ hin
  refine xQ (args := [.func (.yield ly) #[] #[], .pointer (some ⟨sb, 0, none⟩)]) Tryz.func122 rfl Tryz.ntmps122 rfl (show Own w (xN ([Res.row sb 112 [.map (some m)], Res.mp yE zh m kl] ++ L0)) (Res.row sb 112 [.map (some m)] :: Res.mp yE zh m kl :: L0) w from hin) ?_
  refine zB (zY 0 (v := .map (some m)) rfl rfl rfl rfl (jz 1 zGJ rfl rfl rfl (fun r5 => zA (zQ ?_))))
  refine xI (fun (todo : List (Nat × RepD)) (xs : List Nat) (Lr : List Res) => [(0, .func (.yield ly) #[] #[]), (5, .pointer (some ⟨r5, 0, none⟩))]) (fun (todo : List (Nat × RepD)) (xs : List Nat) (Lr : List Res) => (xs ++ todo.map (·.1)).Perm (kl.map (·.1)) ∧ J xs Lr) (fun (todo : List (Nat × RepD)) (xs : List Nat) (Lr : List Res) => (Res.row sb 112 [.map (some m)] :: Res.rg yE zh m r5 kl todo :: Lr)) (fun (todo : List (Nat × RepD)) (xs : List Nat) (Lr : List Res) => todo.length) (fun w' hw => ⟨kl, [], L0, ⟨rfl, rfl, trivial⟩, ⟨.refl _, hJ⟩, hw⟩) (fun todo xs Lr g hΦ => ?_)
  have hxp := hΦ.1
  have hJx := hΦ.2
  refine zB (zA9 1 rfl rfl rfl (fun hq0 => ?_) (fun q1 k v q2 hq1 => ?_))
  ·
   refine zp (vs := [.bool false]) rfl rfl rfl (zA (zL (xO rfl ?_)))
   exact yq rfl (jQ rfl (fun w' hw => ⟨xs, Lr, (by rw [hq0] at hxp; simpa using hxp), hJx, (Own.rgEnd 1 hw rfl)⟩))
  ·
   refine zp (vs := [.bool true, Vn k, .agg (RepD.cells v).toArray]) rfl rfl rfl (zA (zL (jg rfl (zM (zQ (zB (j9 1 rfl rfl rfl (zp (vs := [Vn k, .agg (RepD.cells v).toArray]) rfl rfl rfl (zD rfl (zA (zDt ?_)))))))))))
   refine kg rfl (zN) ?_
   refine kg rfl (zN) ?_
   refine zDp [Res.row sb 112 [.map (some m)], Res.rg yE zh m r5 kl (q1 ++ q2)] k Y rfl rfl hJx (zJV hxp hq1) rfl (fun Ly1_ hJLy1_ => ?_)
   refine kg rfl (zHg (b := true) rfl) ?_
   refine zIU ?_
   refine xO rfl ?_
   exact xE (fun w' hw => ⟨q1 ++ q2, xs ++ [k], Ly1_, ⟨rfl, rfl, trivial⟩, ⟨zGE hxp hq1, hJLy1_⟩, hw, (by rw [hq1, List.length_append, List.length_append, List.length_cons]; omega)⟩)
theorem zJO {S : List Nat} (m : Nat) (kl : List (Nat × RepD)) (w : World) (hin : Own w S [Res.mp yE zh m kl] w) : Rets Tryz.prog 90 #[.map (some m)] w fun u_ w' => ∃ (b : Nat), u_ = .func (.func 122) #[] #[.pointer (some ⟨b, 0, none⟩)] ∧ Own w S [Res.mp yE zh m kl, Res.row b 112 [.map (some m)]] w' := by
  refine zb Tryz.func90 rfl Tryz.ntmps90 hin ?_
  refine zB (yb rfl rfl (fun b1 => zD rfl (zA (zB (zHl (va := []) (vb := [.pointer (some ⟨b1, 0, none⟩)]) rfl rfl rfl (zD rfl (zA ?_)))))))
  exact zP (z8 (v := .func (.func 122) #[] #[.pointer (some ⟨b1, 0, none⟩)]) rfl rfl (fun w' hw => ⟨b1, rfl, hw⟩))
theorem zGj {Sx : List Nat → Prop} {N : Nat} {Ls : List Res} (sg : FuncId) (lb : List Value) (hcall : xm Tryz.prog sg = true) (hseq : zD6 Tryz.prog sg lb (fun x => Vn x) Sx N Ls) (hN : N ≤ 1000000000) (w : World) (hin : Own w (xN Ls) Ls w) : Rets Tryz.prog 138 #[.slice none 0 0, .func (.func sg) #[] lb.toArray] w fun u_ w' => ∃ (v : Value) (xs : List Nat), u_ = v ∧ Sx xs ∧ Own w (xN Ls) (Ls ++ [Res.vec 28 1 v xs.length (xs.flatMap U1)]) w' := by
  refine zBX (args := [.slice none 0 0, .func (.func sg) #[] lb.toArray]) Tryz.func138 rfl Tryz.ntmps138 rfl rfl rfl (show Own w (xN Ls) Ls w from hin) ?_
  refine yb rfl rfl (fun b => ?_)
  refine zD rfl ?_
  refine zf (fun w1 hw => ?_)
  refine (?_ : CL _ _ _ _ _ _ (Own w (xN Ls) (Ls ++ [Res.row b 103 [.slice none 0 0]]))) w1 hw
  refine zC rfl ?_
  refine zf (fun w2 hw => ?_)
  have hw2 := yQ hw 28 1
  rw [List.append_assoc] at hw2
  refine zFr (enc := (fun x => Vn x)) (p := 7) (q := 5) (Ju := fun pre L => ∃ v, L = [Res.row b 103 [v], Res.vec 28 1 v pre.length (pre.flatMap U1)]) rfl hcall hseq ⟨.slice none 0 0, rfl⟩ hw2 rfl rfl rfl ?_ ?_ ?_
  · intro x w
    exact (zD rfl (zf (fun w' hw' => ⟨rfl, hw'⟩)) : CL _ _ _ _ _ _ (fun w' => w' = w)) w rfl
  · rintro pre x L w ⟨v, rfl⟩ hlen
    refine zY 0 (v := v) rfl rfl rfl rfl ?_
    refine zC rfl ?_
    refine xF (e := 28) (sz := 1) (vs := [Vn x]) (by kernel_rfl) rfl rfl (by simp [Value.cells]) (by decide) rfl (fun b10 => ?_)
    refine x2 (g := U1) (sz := 1) (by' := 8) (fun _ => rfl) (l := pre) (l' := [x]) (by simp [cell1, U1]) 1 (by kernel_rfl) rfl rfl rfl (fun w' hw' => Vec.sl (Own.holds hw' 2 _ rfl)) (by first | omega | (simp; omega)) (by decide) rfl (fun v11 => ?_)
    refine yu (fun w' hw => Own.cell1Vec (i := 1) rfl hw) (fun hc1_ => ?_)
    refine xr (cs := [v]) 0 rfl rfl rfl hc1_ rfl ?_
    exact zf (fun w' hw => ⟨_, ⟨_, rfl⟩, hw.sel [0, 1] rfl (by decide)⟩)
  · rintro xs L' D w' hS ⟨v, rfl⟩ hO a ha
    have hO2 := hO.perm (List.Perm.cons _ (List.perm_append_comm))
    refine zEr (v := v) rfl ?_ hO2 (fun w'' hO3 => ⟨v, xs, rfl, hS, ?_⟩) a ha
    · exact kg rfl (zFn 1 (v := v) rfl rfl rfl (by kernel_rfl)) (kg rfl xV (zH1 (fun w' hw => ⟨rfl, hw⟩)))
    · exact (Own.tail hO3).perm (List.perm_append_comm (l₁ := [_]))
theorem zFC {S : List Nat} (b m : Nat) (kl : List (Nat × RepD)) (w : World) (hl : kl.length ≤ 1000000000) (hin : Own w S [Res.row b 112 [.map (some m)], Res.mp yE zh m kl] w) : Rets Tryz.prog 121 #[.func (.func 122) #[] #[.pointer (some ⟨b, 0, none⟩)]] w fun u_ w' => ∃ (v' : Value) (l' : List Nat), u_ = v' ∧ l'.Perm (kl.map (·.1)) ∧ Own w S [Res.row b 112 [.map (some m)], Res.mp yE zh m kl, Res.vec 28 1 v' l'.length (l'.flatMap U1)] w' := by
  refine zb Tryz.func121 rfl Tryz.ntmps121 hin ?_
  refine zB (zD rfl (zA (zB (zC rfl (zK rfl rfl (fun w' hw => (zGj 122 [.pointer (some ⟨b, 0, none⟩)] (by kernel_rfl) (zG1 b m kl) (by omega) w' (hw.give [0, 1] rfl (by decide))).mono ?_))))))
  rintro v1_ w1 ⟨_, xs2_, rfl, hf1_1, hO⟩
  refine (?_ : CL _ _ _ _ _ _ (Own w S [Res.row b 112 [.map (some m)], Res.mp yE zh m kl, Res.vec 28 1 v1_ xs2_.length (xs2_.flatMap U1)])) w1 (hw.frameL [0, 1] rfl hO)
  refine zD rfl (zA ?_)
  exact zP (z8 (v := v1_) rfl rfl (fun w' hw => ⟨v1_, xs2_, rfl, hf1_1, hw⟩))
theorem zFz {S : List Nat} (b m : Nat) (kl : List (Nat × RepD)) (w : World) (hl : kl.length ≤ 1000000000) (hin : Own w S [Res.row b 112 [.map (some m)], Res.mp yE zh m kl] w) : Rets Tryz.prog 89 #[.func (.func 122) #[] #[.pointer (some ⟨b, 0, none⟩)]] w fun u_ w' => ∃ (v' : Value) (l' : List Nat), u_ = v' ∧ l'.Perm (kl.map (·.1)) ∧ l'.Pairwise (fun x y => x ≤ y) ∧ Own w S [Res.row b 112 [.map (some m)], Res.mp yE zh m kl, Res.vec 28 1 v' l'.length (l'.flatMap U1)] w' := by
  refine zb Tryz.func89 rfl Tryz.ntmps89 hin ?_
  refine zB (zD rfl (zA (zB (zC rfl (zK rfl rfl (fun w' hw => (zFC b m kl w' (by first | omega | (simp <;> omega)) (hw.give [0, 1] rfl (by decide))).mono ?_))))))
  rintro v'1_ w1 ⟨_, l'2_, rfl, hf1_1, hO⟩
  have hl1 : l'2_.length ≤ 1000000000 := by rw [hf1_1.length_eq, List.length_map]; exact hl
  refine (?_ : CL _ _ _ _ _ _ (Own w S [Res.row b 112 [.map (some m)], Res.mp yE zh m kl, Res.vec 28 1 v'1_ l'2_.length (l'2_.flatMap U1)])) w1 (hw.frameL [0, 1] rfl hO)
  refine zD rfl (zA (zB (zC rfl (zK rfl rfl (fun w' hw => (zGw v'1_ l'2_ w' (by first | assumption | omega | (simp <;> omega) | (constructor <;> (first | omega | (simp only [zd]; omega) | (simp <;> omega)))) (hw.give [2] rfl (by decide))).mono ?_)))))
  rintro _ w1 ⟨l'3_, rfl, hf2_1, hf2_1_1, hO⟩
  refine (?_ : CL _ _ _ _ _ _ (Own w S [Res.row b 112 [.map (some m)], Res.mp yE zh m kl, Res.vec 28 1 v'1_ l'3_.length (l'3_.flatMap U1)])) w1 (hw.frameL [2] rfl hO)
  refine zA (zB (zC rfl (zD rfl (zA ?_))))
  exact zP (z8 (v := v'1_) rfl rfl (fun w' hw => ⟨v'1_, l'3_, rfl, hf2_1.trans hf1_1, hf2_1_1.imp (fun q => ole_nat.1 q), hw⟩))
theorem zKr {S : List Nat} (b m : Nat) (kl : List (Nat × RepD)) (w : World) (hl : kl.length ≤ 1000000) (hin : Own w S [Res.row b 114 [.map (some m)], Res.mp yE zh m kl] w) : Rets Tryz.prog 52 #[.pointer (some ⟨b, 0, none⟩)] w fun u_ w' => ∃ (v : Value) (l : List RepD) (ks : List Nat), u_ = v ∧ ks.Perm (kl.map (·.1)) ∧ ks.Pairwise (fun x y => x ≤ y) ∧ l = ks.map (fun k => (zm k kl).getD RepD.zero) ∧ Own w S [Res.row b 114 [.map (some m)], Res.mp yE zh m kl, Res.vec 43 6 v l.length (l.flatMap RepD.cells)] w' := by
  refine zb Tryz.func52 rfl Tryz.ntmps52 hin ?_
  refine zB (zD rfl (zA (zL (zB (zC rfl (yz (by kernel_rfl) rfl rfl rfl (zA (xO rfl (zM (zB (zD rfl (zA ?_))))))))))))
  refine zL (zB (zC rfl (zr rfl rfl (zX (o := 0) rfl rfl (zY 0 (v := .map (some m)) rfl rfl rfl rfl (zK rfl rfl (fun w' hw => (zJO m kl w' (hw.give [1] rfl (by decide))).mono ?_)))))))
  rintro _ w1 ⟨b1_, rfl, hO⟩
  refine (?_ : CL _ _ _ _ _ _ (Own w S [Res.row b 114 [.map (some m)], Res.mp yE zh m kl, Res.row b1_ 112 [.map (some m)]])) w1 (hw.frameL [1] rfl hO)
  refine zK rfl rfl (fun w' hw => (zFz b1_ m kl w' (by first | omega | (simp <;> omega)) (hw.give [2, 1] rfl (by decide))).mono ?_)
  rintro v'2_ w1 ⟨_, l'3_, rfl, hf4_5, hf4_5_1, hO⟩
  refine (?_ : CL _ _ _ _ _ _ (Own w S [Res.row b 114 [.map (some m)], Res.row b1_ 112 [.map (some m)], Res.mp yE zh m kl, Res.vec 28 1 v'2_ l'3_.length (l'3_.flatMap U1)])) w1 (hw.frameL [2, 1] rfl hO)
  refine yO (pV 3 rfl) rfl rfl (zC rfl (zA (zQ ?_)))
  refine xI (fun (i : Nat) (v : Value) (l : List RepD) => [(0, .pointer (some ⟨b, 0, none⟩)), (3, v), (13, v'2_), (14, Vj l'3_.length), (15, Vj i)]) (fun (i : Nat) (v : Value) (l : List RepD) => i ≤ l'3_.length ∧ l = (l'3_.take i).map (fun k => (zm k kl).getD RepD.zero)) (fun (i : Nat) (v : Value) (l : List RepD) => [Res.row b 114 [.map (some m)], Res.row b1_ 112 [.map (some m)], Res.mp yE zh m kl, Res.vec 28 1 v'2_ l'3_.length (l'3_.flatMap U1), Res.vec 43 6 v l.length (l.flatMap RepD.cells)]) (fun (i : Nat) (v : Value) (l : List RepD) => l'3_.length - i) (fun w' hw => ⟨0, .slice none 0 0, [], ⟨rfl, rfl, rfl, rfl, rfl, trivial⟩, ⟨Nat.zero_le _, rfl⟩, (yQ hw 43 6)⟩) (fun i v l g hΦ => ?_)
  have hi := hΦ.1
  have hlI := hΦ.2
  have hkl : l'3_.length = kl.length := by rw [hf4_5.length_eq, List.length_map]
  have hll : l.length ≤ 1000000 := by rw [hlI, List.length_map, List.length_take]; omega
  refine zB (yZ rfl rfl rfl (zA (zL (zZ rfl (fun c2 => ?_) (fun c2 => ?_)))))
  ·
   refine zM (zL (zQ (zB (zH (pV 3 rfl) 1 i rfl rfl rfl (by omega) rfl (zR (pV 3 rfl) 1 i 0 (fun _ => rfl) rfl rfl (by omega) rfl rfl (zD rfl (zA (zj (zC rfl (zC rfl (zr rfl rfl (zX (o := 0) rfl rfl ?_))))))))))))
   refine zY 0 (v := .map (some m)) rfl rfl rfl rfl (zC rfl (zJs (k := (zI l'3_ i)) (kv := kl) (zv := RepD.zero) zIu zGJ zJl rfl rfl (fun w' hw' => Own.holds hw' 2 _ rfl) rfl (xF (e := 43) (sz := 6) (vs := [.agg (RepD.cells ((zm (zI l'3_ i) kl).getD RepD.zero)).toArray]) (by kernel_rfl) rfl rfl (by simp [Value.cells, RepD.cells]) (by decide) rfl (fun b26 => x2 (g := RepD.cells) (sz := 6) (by' := 48) (fun _ => rfl) (l := l) (l' := [((zm (zI l'3_ i) kl).getD RepD.zero)]) (by simp [cell1, RepD.cells, vu]) 4 (by kernel_rfl) rfl rfl rfl (fun w' hw' => Vec.sl (Own.holds hw' 5 _ rfl)) (by first | omega | (simp; omega)) (by decide) rfl (fun v27 => zD rfl (zA (zj (z6 rfl rfl (zz (by omega)) rfl (zC rfl ?_)))))))))
   exact zf (fun w' hw => ⟨i + 1, v27, l ++ [(zm (zI l'3_ i) kl).getD RepD.zero], ⟨rfl, rfl, rfl, rfl, rfl, trivial⟩, ⟨by omega, by rw [hlI, yD (by omega), List.map_append]; rfl⟩, hw.sel [0, 1, 2, 3, 4] rfl (by decide), (by omega)⟩)
  ·
   refine yK rfl (zB (zC rfl (zD rfl (zA ?_))))
   exact zP (z8 (v := v) rfl rfl (fun w' hw => ⟨v, l, l'3_, rfl, hf4_5, hf4_5_1, (by rw [hlI, List.take_of_length_le (by omega)]), hw.sel [0, 2, 4] rfl (by decide)⟩))
end Go.Proofs.YthincafbmpialaaGreat
