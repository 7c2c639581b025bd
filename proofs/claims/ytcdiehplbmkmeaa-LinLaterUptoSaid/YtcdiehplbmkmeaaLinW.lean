import Derived.Test.YtcdiehplbmkmeaaLinP
import Derived.Test.YtcdiehplbmkmeaaLinC
import Derived.Test.YtcdiehplbmkmeaaLedW
import Derived.Test.YtcdiehplbmkmeaaLDupC
import Derived.Test.YtcdiehplbmkmeaaFwZ
set_option linter.unusedSectionVars false
set_option linter.unusedSimpArgs false
set_option linter.unusedVariables false
set_option maxRecDepth 10000
namespace Go.Proofs.Ytcdiehplbmkmeaa
open Go Go.Sc Go.Proofs
theorem zGa {P : Program} {kt : TypeId} {q : IntKind} (h : zEQ P kt = some q) : KeyL P kt (fun n : Int => Value.int q n) := by
  unfold zEQ at h
  split at h
  · rename_i k hk
    simp at h; subst h
    refine ⟨⟨_, hk, fun a b => ?_, .inl ⟨_, rfl⟩⟩, fun a => ?_⟩
    · simp only [Instr.sameNow, if_true]
      congr 1
    · simp [Instr.sameBits]
  · cases h
def zDu (l : CallD) : Value := .agg l.cells.toArray
def xv : CallD := ⟨0, false, false, zIK, ⟨#[]⟩, 0, 0, zJv, 0, 0⟩
theorem zJy : KeyL Try.prog 3 z4 := zGa (by kernel_rfl)
theorem zJj : xg Try.prog 45 = some (3, 34) := by kernel_rfl
theorem zI8 : xt Try.prog 34 = some (zDu xv) := by kernel_rfl
def LastI (l : List CallD) (i : Nat) (kl : List (Int × CallD)) : Prop := ∀ e, zX e kl = xh (l.take i) e
theorem LastI.start (l : List CallD) : LastI l 0 [] := fun e => rfl
theorem LastI.next {l : List CallD} {i : Nat} {kl : List (Int × CallD)} (h : LastI l i kl) (hi : i < l.length) : LastI l (i + 1) (yj (zG l i).edge (zG l i) kl) := fun e => by
  rw [zCp, h e, xd hi, xY]
  by_cases q : e = (zG l i).edge
  · rw [if_pos q, if_pos q.symm]
  · rw [if_neg q, if_neg fun k => q k.symm]
theorem zCe {c : CallD} (h1 : ¬ (c.beg < 0 ∨ (0 ≤ c.fin ∧ c.fin < c.beg))) (h2 : c.look = true) : (c.cmd = ({ session := 0, seq := 0, op := 0, key := (⟨#[]⟩ : ByteArray), amount := 0, span := 0, lease := 0 } : CmdD)) ↔ c.single := by
  unfold CallD.single; rw [if_pos h2]; exact ⟨fun h => ⟨h1, h⟩, fun h => h.2⟩
theorem zDM {c : CallD} (h1 : ¬ (c.beg < 0 ∨ (0 ≤ c.fin ∧ c.fin < c.beg))) (h2 : ¬ c.look = true) : (((((yO c.cmd.ok) = 0) ∧ (((0 : Nat) : Int) < ((c.cmd.session : Nat) : Int))) ∧ (((0 : Nat) : Int) < ((c.cmd.seq : Nat) : Int))) ∧ (c.key = (⟨#[]⟩ : ByteArray))) ↔ c.single := by
  unfold CallD.single; rw [if_neg h2, errOf_zero]
  constructor
  · rintro ⟨⟨⟨a, b⟩, d⟩, e⟩; exact ⟨h1, ⟨⟨a, by omega⟩, by omega⟩, e⟩
  · rintro ⟨_, ⟨⟨a, b⟩, d⟩, e⟩; exact ⟨⟨⟨a, by omega⟩, by omega⟩, e⟩
theorem zGJ {l : List CallD} {n : Nat} (hn : n < l.length) (h : ¬ ((zG l n).single ∧ zC7 (xh (l.take n) (zG l n).edge) (zG l n))) : ¬ xB l := fun q => h (q n hn)
abbrev zGX (o : Option CallD) (c : CallD) : Prop := (o.isSome = true) ∧ ((((o.getD xv).fin) < 0) ∨ (c.beg ≤ ((o.getD xv).fin)))
theorem late_iff {o : Option CallD} {c : CallD} : zGX o c ↔ ¬ zC7 o c := by
  cases o with
  | none => simp [zC7, zGX]
  | some p => simp only [zGX, zC7, Option.isSome_some, Option.getD_some, true_and, Decidable.not_not]
theorem zFO (c : CallD) (w : World) (hc : c.wf) : Rets Try.prog 12 #[.agg (CallD.cells c).toArray] w fun u_ w' => u_ = .bool (decide c.single) ∧ Own w [] [] w' := by
  have hcm := hc.cmd
  have hck := hcm.key
  refine zg Try.func12 rfl Try.ntmps12 (Own.start w) ?_
  refine zB (ya rfl rfl (fun b1 => zH rfl (zA (zO (zB (zc (o := 11) rfl rfl (ze 0 (v := Vi c.beg) rfl rfl rfl rfl (yT rfl rfl rfl (zC rfl (xP (q := c.beg < 0) 10 3 [18, 17, 16, 15, 14, 13, 12, 11, 10, 9] ((0 ≤ c.fin) ∧ (c.fin < c.beg)) rfl rfl rfl rfl rfl rfl trivial rfl (fun h1_3 => ?_) (fun g1_14 => ?_)))))))))))
  ·
   refine zV rfl (gF h1_3) (zc (o := 12) rfl rfl (zV rfl (gF h1_3) (ze 0 (v := Vi c.fin) rfl rfl rfl rfl (zV rfl (gF h1_3) (yY rfl rfl rfl (zV rfl (gF h1_3) (zC rfl (yW (q := 0 ≤ c.fin) 5 7 [17, 16, 15, 14, 13] (c.fin < c.beg) rfl rfl rfl rfl rfl rfl ⟨_, rfl, rfl, gF h1_3⟩ rfl (fun h1_7 => ?_) (fun g1_13 => ?_)))))))))
   ·
    refine zV rfl (gT h1_7) (zc (o := 12) rfl rfl (zV rfl (gT h1_7) (ze 0 (v := Vi c.fin) rfl rfl rfl rfl (zV rfl (gT h1_7) (zc (o := 11) rfl rfl (zV rfl (gT h1_7) (ze 0 (v := Vi c.beg) rfl rfl rfl rfl (zV rfl (gT h1_7) (yT rfl rfl rfl ?_)))))))))
    exact yg rfl (fun _ hw => hw)
   exact yg rfl (fun _ hw => hw)
  refine zA (zU rfl (fun c1 => ?_) (fun c1 => ?_))
  ·
   refine zB (zH rfl (zA ?_))
   exact zR (z6 (v := .bool false) rfl rfl (fun w' hw => ⟨(by congr 1; exact (decide_eq_false (fun q : c.single => q.1 c1)).symm), hw.drop⟩))
  ·
   refine zM (zO (zB (zc (o := 1) rfl rfl (ze 0 (v := .bool c.look) rfl rfl rfl rfl (zA (jw rfl (fun c2 => ?_) (fun c2 => ?_)))))))
   ·
    refine zB (zc (o := 3) rfl rfl (zBz 0 (CmdD.cells c.cmd) rfl rfl (j0 3 rfl) (by kernel_rfl) rfl (yN (cs := [Vn 0, Vn 0, Vi 0, .string (⟨#[]⟩ : ByteArray), Vi 0, Vi 0, Vn 0]) (z := [Vn 0, Vn 0, Vi 0, .string (⟨#[]⟩ : ByteArray), Vi 0, Vi 0, Vn 0]) (pl := [(0, 1), (1, 1), (2, 1), (3, 1), (4, 1), (5, 1), (6, 1)]) (by kernel_rfl) (by kernel_rfl) rfl (zz rfl (zGK (zH6 c.cmd ({ session := 0, seq := 0, op := 0, key := (⟨#[]⟩ : ByteArray), amount := 0, span := 0, lease := 0 } : CmdD)) (by kernel_rfl) (by kernel_rfl) rfl rfl rfl rfl) (zH rfl (zA ?_))))))
    exact zR (z6 (v := .bool (decide (c.cmd = ({ session := 0, seq := 0, op := 0, key := (⟨#[]⟩ : ByteArray), amount := 0, span := 0, lease := 0 } : CmdD)))) rfl rfl (fun w' hw => ⟨(by congr 1; exact decide_eq_decide.2 (zCe c1 c2)), hw.drop⟩))
   ·
    refine zM (zB (zc (o := 3) rfl rfl (zBz 0 (CmdD.cells c.cmd) rfl rfl (j0 3 rfl) (by kernel_rfl) rfl (zQ rfl rfl (fun w' hw => (j7 c.cmd w' ‹_›).mono ?_)))))
    rintro _ w1 ⟨r1_, rfl, hO⟩
    refine (?_ : CL _ _ _ _ _ _ (Own w [] [Res.row b1 34 (CallD.cells c), Res.vec 5 1 r1_ (if c.cmd.ok then c.cmd.enc else []).length ((if c.cmd.ok then c.cmd.enc else []).map vb)])) w1 (hw.frame0 hO)
    refine zC rfl (zl (vs := [r1_, Vi (yO c.cmd.ok)]) rfl rfl rfl (zl (vs := [r1_, Vi (yO c.cmd.ok)]) rfl rfl rfl (zH rfl (zH rfl (zA (zB (zC rfl (yn rfl rfl rfl (zC rfl (yW (q := (yO c.cmd.ok) = 0) 4 2 [38, 37, 36, 35] (((0 : Nat) : Int) < ((c.cmd.session : Nat) : Int)) rfl rfl rfl rfl rfl rfl trivial rfl (fun h6_2 => ?_) (fun g6_7 => ?_)))))))))))
    ·
     refine zV rfl (gT h6_2) (zc (o := 3) rfl rfl (zV rfl (gT h6_2) (zc (o := 0) rfl rfl (zV rfl (gT h6_2) (ze 0 (v := Vn c.cmd.session) rfl rfl rfl rfl (zV rfl (gT h6_2) (kD rfl rfl rfl ?_)))))))
     exact yg rfl (fun _ hw => hw)
    refine zC rfl (yW (q := ((yO c.cmd.ok) = 0) ∧ (((0 : Nat) : Int) < ((c.cmd.session : Nat) : Int))) 4 8 [44, 43, 42, 41] (((0 : Nat) : Int) < ((c.cmd.seq : Nat) : Int)) rfl rfl rfl rfl rfl rfl trivial rfl (fun h6_8 => ?_) (fun g6_13 => ?_))
    ·
     refine zV rfl (gT h6_8) (zc (o := 3) rfl rfl (zV rfl (gT h6_8) (zc (o := 1) rfl rfl (zV rfl (gT h6_8) (ze 0 (v := Vn c.cmd.seq) rfl rfl rfl rfl (zV rfl (gT h6_8) (kD rfl rfl rfl ?_)))))))
     exact yg rfl (fun _ hw => hw)
    refine zC rfl (yW (q := (((yO c.cmd.ok) = 0) ∧ (((0 : Nat) : Int) < ((c.cmd.session : Nat) : Int))) ∧ (((0 : Nat) : Int) < ((c.cmd.seq : Nat) : Int))) 3 14 [49, 48, 47] (c.key = (⟨#[]⟩ : ByteArray)) rfl rfl rfl rfl rfl rfl trivial rfl (fun h6_14 => ?_) (fun g6_18 => ?_))
    ·
     refine zV rfl (gT h6_14) (zc (o := 10) rfl rfl (zV rfl (gT h6_14) (ze 0 (v := .string c.key) rfl rfl rfl rfl (zV rfl (gT h6_14) (zHt rfl rfl rfl ?_)))))
     exact yg rfl (fun _ hw => hw)
    refine zH rfl (zA ?_)
    exact zR (z6 (v := .bool (decide (((((yO c.cmd.ok) = 0) ∧ (((0 : Nat) : Int) < ((c.cmd.session : Nat) : Int))) ∧ (((0 : Nat) : Int) < ((c.cmd.seq : Nat) : Int))) ∧ (c.key = (⟨#[]⟩ : ByteArray))))) rfl rfl (fun w' hw => ⟨(by congr 1; exact decide_eq_decide.2 (zDM c1 (by rw [c2]; decide))), hw.drop⟩))
theorem zCw (v : Value) (l : List CallD) (w : World) (hcw : ∀ c ∈ l, c.wf) (hl : l.length ≤ 10000000) (hv : Rd w [] (Res.sl v l.length (l.flatMap CallD.cells))) : Rets Try.prog 7 #[v] w fun u_ w' => u_ = Vi (if xB l then (0 : Int) else 2) ∧ Own w [] [] w' := by
  refine zg Try.func7 rfl Try.ntmps7 (Own.start w) ?_
  refine zB (zH rfl (zA (zB (jj (α := CallD) z4 zDu rfl rfl (fun m8 => zH rfl (zA (zO (zB (zC rfl (yl (pR hv) rfl rfl (zC rfl (zA ?_))))))))))))
  refine zT ?_
  refine y4 (fun (i : Nat) (kl : List (Int × CallD)) => [(3, .map (some m8)), (9, v), (10, Vj l.length), (11, Vj i)]) (fun (i : Nat) (kl : List (Int × CallD)) => i ≤ l.length ∧ LastI l i kl ∧ SoundTo l i) (fun (i : Nat) (kl : List (Int × CallD)) => [Res.mp z4 zDu m8 kl]) (fun (i : Nat) (kl : List (Int × CallD)) => l.length - i) (fun w' hw => ⟨0, [], ⟨rfl, rfl, rfl, rfl, trivial⟩, ⟨Nat.zero_le _, LastI.start l, SoundTo.start l⟩, hw⟩) (fun i kl g hΦ => ?_)
  have hi := hΦ.1
  have hL := hΦ.2.1
  have hS := hΦ.2.2
  refine zB (yT rfl rfl rfl (zA (zO (zU rfl (fun c1 => ?_) (fun c1 => ?_)))))
  ·
   have hil : i < l.length := by omega
   have hg := hL (zG l i).edge
   refine zM (zO (zT (zB (zD (pR hv) 21 i rfl rfl rfl (by omega) rfl (zCD (pR hv) 21 i (off := yx v + i * 21) (fun _ => rfl) rfl rfl (by omega) rfl (yR (v := .agg #[Vi 0, .bool false, .bool false, Vn 0, Vn 0, Vi 0, .string (⟨#[]⟩ : ByteArray), Vi 0, Vi 0, Vn 0, .string (⟨#[]⟩ : ByteArray), Vi 0, Vi 0, Vn 0, Vn 0, Vi 0, Vn 0, Vi 0, Vi 0, Vi 0, Vi 0]) (by kernel_rfl) rfl (fun b5 => zt 1 rfl rfl rfl (yC rfl) rfl (zA (zB (zC rfl (zc (o := 0) rfl rfl (ze 1 (v := Vi ((zG l i).edge)) rfl rfl rfl rfl ?_))))))))))))
   refine zBI (k := (zG l i).edge) (kv := kl) (zv := xv) zJy zJj zI8 rfl rfl (fun w' hw' => Own.holds hw' 0 _ rfl) rfl (zC rfl (zl (vs := [.agg (CallD.cells ((zX ((zG l i).edge) kl).getD xv)).toArray, .bool ((zX ((zG l i).edge) kl).isSome)]) rfl rfl rfl (zl (vs := [.agg (CallD.cells ((zX ((zG l i).edge) kl).getD xv)).toArray, .bool ((zX ((zG l i).edge) kl).isSome)]) rfl rfl rfl (yR (v := .agg #[Vi 0, .bool false, .bool false, Vn 0, Vn 0, Vi 0, .string (⟨#[]⟩ : ByteArray), Vi 0, Vi 0, Vn 0, .string (⟨#[]⟩ : ByteArray), Vi 0, Vi 0, Vn 0, Vn 0, Vi 0, Vn 0, Vi 0, Vi 0, Vi 0, Vi 0]) (by kernel_rfl) rfl (fun b6 => zt 2 rfl rfl rfl (yC rfl) rfl (zH rfl (zA (zO (zB (yr (cs := (CallD.cells (zG l i))) 1 rfl rfl rfl (zQ rfl rfl (fun w' hw => (zFO (zG l i) w' (hcw _ (yH hil))).mono ?_))))))))))))
   rintro _ w1 ⟨rfl, hO⟩
   refine (?_ : CL _ _ _ _ _ _ (Own w [] [Res.mp z4 zDu m8 kl, Res.row b5 34 (CallD.cells (zG l i)), Res.row b6 34 (CallD.cells ((zX ((zG l i).edge) kl).getD xv))])) w1 (hw.frame0 hO)
   refine ku (q := (zG l i).single) rfl rfl (zC rfl (xP (q := ¬ ((zG l i).single)) 13 3 [38, 37, 36, 35, 34, 33, 32, 31, 30, 29, 28, 27, 26] ((((zX ((zG l i).edge) kl).isSome) = true) ∧ (((((zX ((zG l i).edge) kl).getD xv).fin) < 0) ∨ (((zG l i).beg) ≤ (((zX ((zG l i).edge) kl).getD xv).fin)))) rfl rfl rfl rfl rfl rfl trivial rfl (fun h6_3 => ?_) (fun g6_17 => ?_)))
   ·
    refine zV rfl (gF h6_3) (zC rfl (zV rfl (gF h6_3) (zC rfl (yW (q := ((zX ((zG l i).edge) kl).isSome) = true) 10 5 [37, 36, 35, 34, 33, 32, 31, 30, 29, 28] (((((zX ((zG l i).edge) kl).getD xv).fin) < 0) ∨ (((zG l i).beg) ≤ (((zX ((zG l i).edge) kl).getD xv).fin))) rfl rfl (xE _) rfl rfl rfl ⟨_, rfl, rfl, gF h6_3⟩ rfl (fun h6_5 => ?_) (fun g6_16 => ?_)))))
    ·
     refine zV rfl (bT h6_5) (zc (o := 12) rfl rfl (zV rfl (bT h6_5) (ze 2 (v := Vi (((zX ((zG l i).edge) kl).getD xv).fin)) rfl rfl rfl rfl (zV rfl (bT h6_5) (yT rfl rfl rfl (zV rfl (bT h6_5) (zC rfl (xP (q := (((zX ((zG l i).edge) kl).getD xv).fin) < 0) 5 9 [36, 35, 34, 33, 32] (((zG l i).beg) ≤ (((zX ((zG l i).edge) kl).getD xv).fin)) rfl rfl rfl rfl rfl rfl ⟨_, rfl, rfl, (bT h6_5)⟩ rfl (fun h6_9 => ?_) (fun g6_15 => ?_)))))))))
     ·
      refine zV rfl (gF h6_9) (zc (o := 11) rfl rfl (zV rfl (gF h6_9) (ze 1 (v := Vi ((zG l i).beg)) rfl rfl rfl rfl (zV rfl (gF h6_9) (zc (o := 12) rfl rfl (zV rfl (gF h6_9) (ze 2 (v := Vi (((zX ((zG l i).edge) kl).getD xv).fin)) rfl rfl rfl rfl (zV rfl (gF h6_9) (zAQ rfl rfl rfl ?_)))))))))
      exact yg rfl (fun _ hw => hw)
     exact yg rfl (fun _ hw => hw)
    exact yg rfl (fun _ hw => hw)
   refine zA (zU rfl (fun c2 => ?_) (fun c2 => ?_))
   ·
    refine zB (zH rfl (zA ?_))
    exact zR (z6 (v := Vi 2) rfl rfl (fun w' hw => ⟨(by congr 1; exact (if_neg (zGJ hil (fun q => c2.elim (fun k => k q.1) (fun k => by rw [hg] at k; exact late_iff.1 k q.2)))).symm), hw.drop⟩))
   ·
    refine zM (zj (zC rfl (zc (o := 0) rfl rfl (ze 1 (v := Vi ((zG l i).edge)) rfl rfl rfl rfl (yr (cs := (CallD.cells (zG l i))) 1 rfl rfl rfl (zAD 0 (k := (zG l i).edge) (v := (zG l i)) zJy zJj rfl rfl rfl rfl (zA (zj (zw rfl rfl (zr (by omega)) rfl (zC rfl ?_))))))))))
    exact zf (fun w' hw => ⟨i + 1, yj (zG l i).edge (zG l i) kl, ⟨rfl, rfl, rfl, rfl, trivial⟩, ⟨hil, hL.next hil, hS.next (Decidable.not_not.1 fun q => c2 (.inl q)) (Decidable.not_not.1 fun q => c2 (.inr (by rw [hg]; exact late_iff.2 q)))⟩, hw.sel [0] rfl (by decide), (by omega)⟩)
  ·
   refine yI rfl (zB (zH rfl (zA ?_)))
   exact zR (z6 (v := Vi 0) rfl rfl (fun w' hw => ⟨(by congr 1; exact (if_pos (by have e : i = l.length := (by omega); rw [e] at hS; exact hS)).symm), hw.drop⟩))
def LT (idx : Nat) (now : Int) (cnt : Nat) (kb : List (ByteArray × Int)) (kl : List (Nat × LeaD)) (kr : List (Nat × RepD)) (t : RL) : Prop := LSt idx now cnt kb kl kr idx t.now t.cnt t.bs t.ls t.rs
section
variable {idx : Nat} {now : Int} {cnt : Nat} {kb : List (ByteArray × Int)} {kl : List (Nat × LeaD)} {kr : List (Nat × RepD)} {t : RL}
theorem LT.start (idx : Nat) : LT idx 0 0 [] [] [] ⟨0, 0, [], [], []⟩ := ⟨rfl, rfl, rfl, LOkR.start, LRel.start⟩
theorem LT.do (h : LT idx now cnt kb kl kr t) {c : CmdD} {r : RepD} {did : Bool} {cnt' : Nat} {kb' : List (ByteArray × Int)} {kl' : List (Nat × LeaD)} {kr' : List (Nat × RepD)} (hc : c.wf) (hn : t.cnt < 1000000000) (h1 : DoK now cnt kb kl kr c r did cnt' kb' kl' kr') :
    (r = (doF t c).1.1 ∧ did = (doF t c).1.2) ∧ LT idx now cnt' kb' kl' kr' (doF t c).2 ∧ (doF t c).2.cnt ≤ t.cnt + 1 ∧ r.wf := by
  obtain ⟨h2, h3⟩ := zID t c
  obtain ⟨q1, q2, q3, q4⟩ := LSt.do h hc hn h1 h2
  refine ⟨q1, ?_, q3, q4⟩
  unfold LT; rw [h3]; exact q2
theorem LT.pass (h : LT idx now cnt kb kl kr t) {d : Int} {now' : Int} {kl' : List (Nat × LeaD)} (hd : yd d) (e1 : now' = zAR now d) (e2 : kl' = kY now d kl) : LT idx now' cnt kb kl' kr (x3 t d) := by
  obtain ⟨_, q1, q2, q3, q4⟩ := h
  subst q1 e1 e2
  exact ⟨rfl, rfl, q2, ⟨q3.q.pass d hd, q3.s, q3.c, q3.w, q3.n, fun l hl => q3.a l (by unfold x3 zBB at hl; dsimp only at hl; split at hl; exact (List.mem_filter.1 hl).1; exact hl)⟩, ⟨q4.q.pass d, q4.c⟩⟩
theorem zBb (h : LT idx now cnt kb kl kr t) {c : CallD} {n : Int} (hc : c.look = true) (hn : n = z3 c.key kl) : decide ((c.fin < 0) ∨ ((c.cap = ((zX c.key kb).getD 0)) ∧ (c.lent = n))) = (yy t c).1 ∧ (yy t c).2 = t := by
  unfold yy
  rw [if_pos hc, hn, h.r.q.lent, h.h.q.bud h.r.q]
  exact ⟨rfl, rfl⟩
theorem zC3 {c : CallD} {r : RepD} (hc : ¬ c.look = true) (hr : r = (doF t c.cmd).1.1) : decide ((c.fin < 0) ∨ (r = c.reply)) = (yy t c).1 ∧ (yy t c).2 = (doF t c.cmd).2 := by
  unfold yy
  rw [if_neg hc, hr]
  exact ⟨rfl, rfl⟩
end
theorem zHJ {S : List Nat} (b tb cb bm lm idx : Nat) (now : Int) (cnt : Nat) (kb : List (ByteArray × Int)) (kl : List (Nat × LeaD)) (k : ByteArray) (w : World) (hin : Own w S [Res.row b 60 [.pointer (some ⟨tb, 0, none⟩), .pointer (some ⟨cb, 0, none⟩), Vn idx], Res.row tb 71 [.map (some bm), .map (some lm), Vi now, Vn cnt], Res.mp Value.string z4 bm kb, Res.mp zx zY lm kl] w) : Rets Try.prog 22 #[.pointer (some ⟨b, 0, none⟩), .string k] w fun u_ w' => ∃ (n : Int), u_ = .tuple #[Vi ((zX k kb).getD 0), Vi n] ∧ n = z3 k kl ∧ Own w S [Res.row b 60 [.pointer (some ⟨tb, 0, none⟩), .pointer (some ⟨cb, 0, none⟩), Vn idx], Res.row tb 71 [.map (some bm), .map (some lm), Vi now, Vn cnt], Res.mp Value.string z4 bm kb, Res.mp zx zY lm kl] w' := by
  refine zg Try.func22 rfl Try.ntmps22 hin ?_
  refine zB (zH rfl (zH rfl (zA (zO (zB (zC rfl (xS (by kernel_rfl) rfl rfl rfl (zA (xf rfl (zM (zB (zC rfl ?_))))))))))))
  refine yA rfl rfl (zc (o := 0) rfl rfl (ze 0 (v := .pointer (some ⟨tb, 0, none⟩)) rfl rfl rfl rfl (zC rfl (zQ rfl rfl (fun w' hw => (zHX tb bm lm now cnt kb kl k w' (hw.give [1, 2, 3] rfl (by decide))).mono ?_)))))
  rintro _ w1 ⟨n1_, rfl, hf3_5, hO⟩
  refine (?_ : CL _ _ _ _ _ _ (Own w S [Res.row b 60 [.pointer (some ⟨tb, 0, none⟩), .pointer (some ⟨cb, 0, none⟩), Vn idx], Res.row tb 71 [.map (some bm), .map (some lm), Vi now, Vn cnt], Res.mp Value.string z4 bm kb, Res.mp zx zY lm kl])) w1 (hw.frameL [1, 2, 3] rfl hO)
  refine zl (vs := [Vi ((zX k kb).getD 0), Vi n1_]) rfl rfl rfl (zl (vs := [Vi ((zX k kb).getD 0), Vi n1_]) rfl rfl rfl (zH rfl (zH rfl (zA ?_))))
  exact zR (yV (v := Vi ((zX k kb).getD 0)) (v' := Vi n1_) rfl rfl rfl (fun w' hw => ⟨n1_, rfl, hf3_5, hw⟩))
theorem zGf {S : List Nat} (o b : Nat) (v dv : Value) (l : List CallD) (dn : List Bool) (k : Int) (w : World) (hl : l.length ≤ 10000000) (hd : dn.length = l.length) (hk0 : 0 ≤ k) (hk : k.toNat < l.length) (hin : Own w S [Res.row o 52 [.pointer (some ⟨b, 0, none⟩), v, dv], Res.vec 4 1 dv dn.length (dn.flatMap B1)] w) (hv : Rd w S (Res.sl v l.length (l.flatMap CallD.cells))) : Rets Try.prog 14 #[.pointer (some ⟨o, 0, none⟩), Vi k] w fun u_ w' => u_ = .bool (decide (kP l dn (zG l k.toNat))) ∧ Own w S [Res.row o 52 [.pointer (some ⟨b, 0, none⟩), v, dv], Res.vec 4 1 dv dn.length (dn.flatMap B1)] w' := by
  refine zg Try.func14 rfl Try.ntmps14 hin ?_
  refine zB (zH rfl (zA (zO (zB (zC rfl (yA rfl rfl (zc (o := 1) rfl rfl (ze 0 (v := v) rfl rfl rfl rfl (yl (pR hv) rfl rfl (zC rfl (zA (zT ?_))))))))))))
  refine xJ (fun (i : Nat) => [(0, .pointer (some ⟨o, 0, none⟩)), (1, Vi k), (10, v), (11, Vj l.length), (12, Vj i)]) (fun (i : Nat) => i ≤ l.length ∧ ¬ zCK l dn (zG l k.toNat) i) (fun (i : Nat) => [Res.row o 52 [.pointer (some ⟨b, 0, none⟩), v, dv], Res.vec 4 1 dv dn.length (dn.flatMap B1)]) (fun (i : Nat) => l.length - i) (fun w' hw => ⟨0, ⟨rfl, rfl, rfl, rfl, rfl, trivial⟩, ⟨Nat.zero_le _, fun ⟨j, hj, _⟩ => absurd hj (Nat.not_lt_zero j)⟩, hw⟩) (fun i g hΦ => ?_)
  have hi := hΦ.1
  have hE := hΦ.2
  refine zB (yT rfl rfl rfl (zA (zO (zU rfl (fun c1 => ?_) (fun c1 => ?_)))))
  ·
   refine zM (zO (zT (zB (zC rfl (zD (pR hv) 21 i rfl rfl rfl (by omega) rfl (zCD (pR hv) 21 i (off := yx v + i * 21) (fun _ => rfl) rfl rfl (by omega) rfl (yR (v := .agg #[Vi 0, .bool false, .bool false, Vn 0, Vn 0, Vi 0, .string (⟨#[]⟩ : ByteArray), Vi 0, Vi 0, Vn 0, .string (⟨#[]⟩ : ByteArray), Vi 0, Vi 0, Vn 0, Vn 0, Vi 0, Vn 0, Vi 0, Vi 0, Vi 0, Vi 0]) (by kernel_rfl) rfl (fun b6 => zH rfl (zt 2 rfl rfl rfl (yC rfl) rfl (zA (kw (by kernel_rfl) (by kernel_rfl) (zm rfl (zJ) ?_))))))))))))
   refine zm rfl (zo rfl) (zm rfl (zk (o := 2) rfl) (zm rfl (zp 0 (v := dv) rfl rfl rfl) (zm rfl (zJ) (zm rfl (z7 (pV 1 rfl) 1 i rfl rfl rfl (by omega)) (zm rfl (yL (pV 1 rfl) 1 i 0 (fun _ => rfl) rfl rfl (by omega) rfl) (zm rfl (zH3 (b := (zG dn i)) rfl) (zm rfl (zJ) (zDG (q := (!(zG dn i)) = true) 3 8 [28, 27, 26] (0 ≤ ((zG l i).fin)) rfl rfl (xE _) rfl rfl rfl trivial rfl (fun h4_8 => ?_) (fun g4_12 => ?_)))))))))
   ·
    refine y9 rfl (bT h4_8) (zm rfl (zk (o := 12) rfl) (y9 rfl (bT h4_8) (zm rfl (zp 2 (v := Vi ((zG l i).fin)) rfl rfl rfl) (y9 rfl (bT h4_8) (zm rfl (zHr rfl rfl) ?_)))))
    exact zFL rfl
   refine zm rfl (zJ) (zDG (q := ((!(zG dn i)) = true) ∧ (0 ≤ ((zG l i).fin))) 11 13 [41, 40, 39, 38, 37, 36, 35, 34, 33, 32, 31] (((zG l i).fin) < ((zG l ((k).toNat)).beg)) rfl rfl rfl rfl rfl rfl trivial rfl (fun h4_13 => ?_) (fun g4_25 => ?_))
   ·
    refine y9 rfl (gT h4_13) (zm rfl (zk (o := 12) rfl) (y9 rfl (gT h4_13) (zm rfl (zp 2 (v := Vi ((zG l i).fin)) rfl rfl rfl) (y9 rfl (gT h4_13) (zm rfl (zJ) (y9 rfl (gT h4_13) (zm rfl (zo rfl) (y9 rfl (gT h4_13) (zm rfl (zk (o := 1) rfl) (y9 rfl (gT h4_13) (zm rfl (zp 0 (v := v) rfl rfl rfl) (y9 rfl (gT h4_13) ?_))))))))))))
    refine zm rfl (zJ) (y9 rfl (gT h4_13) (zm rfl (z7 (pR hv) 21 ((k).toNat) rfl rfl (by omega) (by omega)) (y9 rfl (gT h4_13) (zm rfl (zk (o := 11) rfl) (y9 rfl (gT h4_13) (zm rfl (yL (pR hv) 21 ((k).toNat) 11 (off := yx v + ((k).toNat) * 21 + 11) (fun _ => rfl) rfl (by omega) (by omega) rfl) (y9 rfl (gT h4_13) (zm rfl (zDy rfl rfl) ?_))))))))
    exact zFL rfl
   refine zDF (zU rfl (fun c2 => ?_) (fun c2 => ?_))
   ·
    refine zB (zH rfl (zA ?_))
    exact zR (z6 (v := .bool true) rfl rfl (fun w' hw => ⟨(by congr 1; exact (decide_eq_true (⟨i, by omega, notFi.1 c2.1.1, c2.1.2, c2.2⟩ : kP l dn (zG l k.toNat))).symm), hw.sel [0, 1] rfl (by decide)⟩))
   ·
    refine zM (zj (zw rfl rfl (zr (by omega)) rfl (zC rfl ?_)))
    exact zf (fun w' hw => ⟨i + 1, ⟨rfl, rfl, rfl, rfl, rfl, trivial⟩, ⟨by omega, zDR hE (fun q => c2 ⟨⟨notFi.2 q.1.1, q.1.2⟩, q.2⟩)⟩, hw.sel [0, 1] rfl (by decide), (by omega)⟩)
  ·
   refine yI rfl (zB (zH rfl (zA ?_)))
   exact zR (z6 (v := .bool false) rfl rfl (fun w' hw => ⟨(by congr 1; exact (decide_eq_false (fun q : kP l dn (zG l k.toNat) => hE (by have e : i = l.length := (by omega); rw [e]; exact q))).symm), hw⟩))
theorem zEA {S : List Nat} (o b : Nat) (v dv : Value) (l : List CallD) (dn : List Bool) (w : World) (hl : l.length ≤ 10000000) (hd : dn.length = l.length) (hin : Own w S [Res.row o 52 [.pointer (some ⟨b, 0, none⟩), v, dv], Res.vec 4 1 dv dn.length (dn.flatMap B1)] w) (hv : Rd w S (Res.sl v l.length (l.flatMap CallD.cells))) : Rets Try.prog 10 #[.pointer (some ⟨o, 0, none⟩)] w fun u_ w' => u_ = .bool (decide (Whole l dn)) ∧ Own w S [Res.row o 52 [.pointer (some ⟨b, 0, none⟩), v, dv], Res.vec 4 1 dv dn.length (dn.flatMap B1)] w' := by
  refine zg Try.func10 rfl Try.ntmps10 hin ?_
  refine zB (zH rfl (zA (zO (zB (zC rfl (yA rfl rfl (zc (o := 1) rfl rfl (ze 0 (v := v) rfl rfl rfl rfl (yl (pR hv) rfl rfl (zC rfl (zA (zT ?_))))))))))))
  refine xJ (fun (i : Nat) => [(0, .pointer (some ⟨o, 0, none⟩)), (8, v), (9, Vj l.length), (10, Vj i)]) (fun (i : Nat) => i ≤ l.length ∧ zCG l dn i) (fun (i : Nat) => [Res.row o 52 [.pointer (some ⟨b, 0, none⟩), v, dv], Res.vec 4 1 dv dn.length (dn.flatMap B1)]) (fun (i : Nat) => l.length - i) (fun w' hw => ⟨0, ⟨rfl, rfl, rfl, rfl, trivial⟩, ⟨Nat.zero_le _, fun j hj => absurd hj (Nat.not_lt_zero j)⟩, hw⟩) (fun i g hΦ => ?_)
  have hi := hΦ.1
  have hE := hΦ.2
  refine zB (yT rfl rfl rfl (zA (zO (zU rfl (fun c1 => ?_) (fun c1 => ?_)))))
  ·
   refine zM (zO (zT (zB (zC rfl (zD (pR hv) 21 i rfl rfl rfl (by omega) rfl (zCD (pR hv) 21 i (off := yx v + i * 21) (fun _ => rfl) rfl rfl (by omega) rfl (yR (v := .agg #[Vi 0, .bool false, .bool false, Vn 0, Vn 0, Vi 0, .string (⟨#[]⟩ : ByteArray), Vi 0, Vi 0, Vn 0, .string (⟨#[]⟩ : ByteArray), Vi 0, Vi 0, Vn 0, Vn 0, Vi 0, Vn 0, Vi 0, Vi 0, Vi 0, Vi 0]) (by kernel_rfl) rfl (fun b4 => zH rfl (zt 2 rfl rfl rfl (yC rfl) rfl (zA (zB (zc (o := 12) rfl rfl ?_))))))))))))
   refine ze 2 (v := Vi ((zG l i).fin)) rfl rfl rfl rfl (yY rfl rfl rfl (zC rfl (yW (q := 0 ≤ ((zG l i).fin)) 8 3 [26, 25, 24, 23, 22, 21, 20, 19] ((!(zG dn i)) = true) rfl rfl rfl rfl rfl rfl trivial rfl (fun h4_3 => ?_) (fun g4_12 => ?_))))
   ·
    refine zV rfl (gT h4_3) (zC rfl (zV rfl (gT h4_3) (yA rfl rfl (zV rfl (gT h4_3) (zc (o := 2) rfl rfl (zV rfl (gT h4_3) (ze 0 (v := dv) rfl rfl rfl rfl (zV rfl (gT h4_3) (zC rfl (zV rfl (gT h4_3) (zD (pV 1 rfl) 1 i rfl rfl rfl (by omega) rfl (zV rfl (gT h4_3) ?_))))))))))))
    refine zL (pV 1 rfl) 1 i 0 (fun _ => rfl) rfl rfl (by omega) rfl rfl (zV rfl (gT h4_3) (jt (b := (zG dn i)) rfl rfl ?_))
    exact yg (xE _) (fun _ hw => hw)
   refine zA (zU rfl (fun c2 => ?_) (fun c2 => ?_))
   ·
    refine zB (zH rfl (zA ?_))
    exact zR (z6 (v := .bool false) rfl rfl (fun w' hw => ⟨(by congr 1; exact (decide_eq_false (fun q : Whole l dn => by have := q i (by omega) c2.1; have := notFi.1 c2.2; simp_all)).symm), hw.sel [0, 1] rfl (by decide)⟩))
   ·
    refine zM (zj (zw rfl rfl (zr (by omega)) rfl (zC rfl ?_)))
    exact zf (fun w' hw => ⟨i + 1, ⟨rfl, rfl, rfl, rfl, trivial⟩, ⟨by omega, zDt hE (fun q => c2 ⟨q.1, notFi.2 q.2⟩)⟩, hw.sel [0, 1] rfl (by decide), (by omega)⟩)
  ·
   refine yI rfl (zB (zH rfl (zA ?_)))
   exact zR (z6 (v := .bool true) rfl rfl (fun w' hw => ⟨(by congr 1; exact (decide_eq_true (show Whole l dn by have e : i = l.length := (by omega); rw [e] at hE; exact hE)).symm), hw⟩))
theorem zGk {S : List Nat} (o : Nat) (v dv : Value) (l : List CallD) (dn : List Bool) (b tb cb bm lm rm idx : Nat) (now : Int) (cnt : Nat) (kb : List (ByteArray × Int)) (kl : List (Nat × LeaD)) (kr : List (Nat × RepD)) (t : RL) (c : CallD) (w : World) (hT : LT idx now cnt kb kl kr t) (hcw : c.wf) (hn : t.cnt < 1000000000) (hin : Own w S [Res.row o 52 [.pointer (some ⟨b, 0, none⟩), v, dv], Res.vec 4 1 dv dn.length (dn.flatMap B1), Res.row b 60 [.pointer (some ⟨tb, 0, none⟩), .pointer (some ⟨cb, 0, none⟩), Vn idx], Res.row tb 71 [.map (some bm), .map (some lm), Vi now, Vn cnt], Res.mp Value.string z4 bm kb, Res.mp zx zY lm kl, Res.row cb 89 [.map (some rm)], Res.mp yK zn rm kr] w) (hv : Rd w S (Res.sl v l.length (l.flatMap CallD.cells))) : Rets Try.prog 16 #[.pointer (some ⟨o, 0, none⟩), .agg (CallD.cells c).toArray] w fun u_ w' => ∃ (now' : Int) (cnt' : Nat) (kb' : List (ByteArray × Int)) (kl' : List (Nat × LeaD)) (kr' : List (Nat × RepD)), u_ = .bool ((yy t c).1) ∧ LT idx now' cnt' kb' kl' kr' (yy t c).2 ∧ Own w S [Res.row o 52 [.pointer (some ⟨b, 0, none⟩), v, dv], Res.vec 4 1 dv dn.length (dn.flatMap B1), Res.row b 60 [.pointer (some ⟨tb, 0, none⟩), .pointer (some ⟨cb, 0, none⟩), Vn idx], Res.row tb 71 [.map (some bm), .map (some lm), Vi now', Vn cnt'], Res.mp Value.string z4 bm kb', Res.mp zx zY lm kl', Res.row cb 89 [.map (some rm)], Res.mp yK zn rm kr'] w' := by
  refine zg Try.func16 rfl Try.ntmps16 hin ?_
  refine zB (ya rfl rfl (fun b3 => zH rfl (zA (zO (zB (zc (o := 1) rfl rfl (ze 8 (v := .bool c.look) rfl rfl rfl rfl (zA (jw rfl (fun c1 => ?_) (fun c1 => ?_))))))))))
  ·
   refine zO (zW [0, 1, 6, 7, 8] rfl (by decide) (by kernel_rfl) (fun w' hw hS => zE 0 rfl (zJ) hS (zE 1 rfl (zo rfl) hS (zE 2 rfl (zk (o := 0) rfl) hS (zE 3 rfl (zp 0 (v := .pointer (some ⟨b, 0, none⟩)) rfl rfl rfl) hS (zE 4 rfl (zk (o := 10) rfl) hS (zE 5 rfl (zp 4 (v := .string c.key) rfl rfl rfl) hS (zZ 6 rfl hw (zQ rfl rfl (fun w' hw => (zHJ b tb cb bm lm idx now cnt kb kl c.key w' (hw.give [2, 3, 4, 5] rfl (by decide))).mono ?_))))))))))
   rintro _ w1 ⟨n1_, rfl, hf2_6, hO⟩
   refine (?_ : CL _ _ _ _ _ _ (Own w S [Res.row o 52 [.pointer (some ⟨b, 0, none⟩), v, dv], Res.vec 4 1 dv dn.length (dn.flatMap B1), Res.row cb 89 [.map (some rm)], Res.mp yK zn rm kr, Res.row b3 34 (CallD.cells c), Res.row b 60 [.pointer (some ⟨tb, 0, none⟩), .pointer (some ⟨cb, 0, none⟩), Vn idx], Res.row tb 71 [.map (some bm), .map (some lm), Vi now, Vn cnt], Res.mp Value.string z4 bm kb, Res.mp zx zY lm kl])) w1 (hw.frameL [2, 3, 4, 5] rfl hO)
   refine zF [0, 1, 2, 3, 4] rfl (by decide) (fun w' hw hS => zE 7 rfl (zJ) hS (zE 8 rfl (yh (vs := [Vi ((zX c.key kb).getD 0), Vi n1_]) rfl rfl) hS (zE 9 rfl (yh (vs := [Vi ((zX c.key kb).getD 0), Vi n1_]) rfl rfl) hS (zE 10 rfl (xN) hS (zE 11 rfl (xN) hS (zK ?_))))))
   refine (?_ : C _ _ _ _ _ _ _ (Own w S [Res.row o 52 [.pointer (some ⟨b, 0, none⟩), v, dv], Res.vec 4 1 dv dn.length (dn.flatMap B1), Res.row cb 89 [.map (some rm)], Res.mp yK zn rm kr, Res.row b3 34 (CallD.cells c), Res.row b 60 [.pointer (some ⟨tb, 0, none⟩), .pointer (some ⟨cb, 0, none⟩), Vn idx], Res.row tb 71 [.map (some bm), .map (some lm), Vi now, Vn cnt], Res.mp Value.string z4 bm kb, Res.mp zx zY lm kl])) _ hw
   refine zB (zc (o := 12) rfl rfl (ze 4 (v := Vi c.fin) rfl rfl rfl rfl (yT rfl rfl rfl (zC rfl (xP (q := c.fin < 0) 10 3 [34, 33, 32, 31, 30, 29, 28, 27, 26, 25] ((c.cap = ((zX c.key kb).getD 0)) ∧ (c.lent = n1_)) rfl rfl rfl rfl rfl rfl trivial rfl (fun h3_3 => ?_) (fun g3_14 => ?_))))))
   ·
    refine zV rfl (gF h3_3) (zc (o := 19) rfl rfl (zV rfl (gF h3_3) (ze 4 (v := Vi c.cap) rfl rfl rfl rfl (zV rfl (gF h3_3) (zC rfl (zV rfl (gF h3_3) (yn rfl rfl rfl (zV rfl (gF h3_3) (zC rfl (yW (q := c.cap = ((zX c.key kb).getD 0)) 4 8 [33, 32, 31, 30] (c.lent = n1_) rfl rfl rfl rfl rfl rfl ⟨_, rfl, rfl, gF h3_3⟩ rfl (fun h3_8 => ?_) (fun g3_13 => ?_)))))))))))
    ·
     refine zV rfl (gT h3_8) (zc (o := 20) rfl rfl (zV rfl (gT h3_8) (ze 4 (v := Vi c.lent) rfl rfl rfl rfl (zV rfl (gT h3_8) (zC rfl (zV rfl (gT h3_8) (yn rfl rfl rfl ?_)))))))
     exact yg rfl (fun _ hw => hw)
    exact yg rfl (fun _ hw => hw)
   refine zH rfl (zA ?_)
   exact zR (z6 (v := .bool (decide ((c.fin < 0) ∨ ((c.cap = ((zX c.key kb).getD 0)) ∧ (c.lent = n1_))))) rfl rfl (fun w' hw => ⟨now, cnt, kb, kl, kr, (by congr 1; exact (zBb hT c1 hf2_6).1), by rw [(zBb hT c1 hf2_6).2]; exact hT, hw.sel [0, 1, 5, 6, 7, 8, 2, 3] rfl (by decide)⟩))
  ·
   refine zM (zO (zW [0, 1, 8] rfl (by decide) (by kernel_rfl) (fun w' hw hS => zE 0 rfl (zJ) hS (zE 1 rfl (zo rfl) hS (zE 2 rfl (zk (o := 0) rfl) hS (zE 3 rfl (zp 0 (v := .pointer (some ⟨b, 0, none⟩)) rfl rfl rfl) hS (zE 4 rfl (zk (o := 3) rfl) hS (zE 5 rfl (zFa 2 (CmdD.cells c.cmd) rfl rfl (j0 3 rfl) (by kernel_rfl)) hS (zS 6 10 ?_ ?_)))))))))
   ·
    refine zP 6 rfl hw (zQ rfl rfl (fun w' hw => (zHp b tb cb bm lm rm idx now cnt kb kl kr c.cmd w' hcw.cmd (LSt.ht hT) (by rw [LSt.c hT]; omega) (LSt.lent1 hT _) (LSt.kl0 hT (by omega)) (hw.give [2, 3, 4, 5, 6, 7] rfl (by decide))).mono ?_))
    rintro _ w1 ⟨r2_, did3_, cnt'4_, kb'5_, kl'6_, kr'7_, rfl, hf4_6, hO⟩
    have hdo := hT.do hcw.cmd hn hf4_6
    have htc := zC3 (c := c) (by rw [c1]; decide) hdo.1.1
    refine (?_ : CL _ _ _ _ _ _ (Own w S [Res.row o 52 [.pointer (some ⟨b, 0, none⟩), v, dv], Res.vec 4 1 dv dn.length (dn.flatMap B1), Res.row b3 34 (CallD.cells c), Res.row b 60 [.pointer (some ⟨tb, 0, none⟩), .pointer (some ⟨cb, 0, none⟩), Vn idx], Res.row tb 71 [.map (some bm), .map (some lm), Vi now, Vn cnt'4_], Res.mp Value.string z4 bm kb'5_, Res.mp zx zY lm kl'6_, Res.row cb 89 [.map (some rm)], Res.mp yK zn rm kr'7_])) w1 (hw.frameL [2, 3, 4, 5, 6, 7] rfl hO)
    refine zF [0, 1, 2] rfl (by decide) (fun w' hw hS => zE 7 rfl (zJ) hS (zE 8 rfl (yh (vs := [.agg (RepD.cells r2_).toArray, .bool did3_]) rfl rfl) hS (zE 9 rfl (yh (vs := [.agg (RepD.cells r2_).toArray, .bool did3_]) rfl rfl) hS (zZ 10 rfl hw (yR (v := .agg #[Vn 0, Vn 0, Vi 0, Vn 0, Vi 0, Vi 0]) (by kernel_rfl) rfl (fun b7 => zF [0, 1, 2] rfl (by decide) (fun w' hw hS => zZ 11 rfl hw (zt 9 rfl rfl rfl (yC rfl) rfl (zF [0, 1, 2] rfl (by decide) (fun w' hw hS => zE 12 rfl (xN) hS (zK ?_)))))))))))
    refine (?_ : C _ _ _ _ _ _ _ (Own w S [Res.row o 52 [.pointer (some ⟨b, 0, none⟩), v, dv], Res.vec 4 1 dv dn.length (dn.flatMap B1), Res.row b3 34 (CallD.cells c), Res.row b 60 [.pointer (some ⟨tb, 0, none⟩), .pointer (some ⟨cb, 0, none⟩), Vn idx], Res.row tb 71 [.map (some bm), .map (some lm), Vi now, Vn cnt'4_], Res.mp Value.string z4 bm kb'5_, Res.mp zx zY lm kl'6_, Res.row cb 89 [.map (some rm)], Res.mp yK zn rm kr'7_, Res.row b7 32 (RepD.cells r2_)])) _ hw
    refine zB (zc (o := 12) rfl rfl (ze 2 (v := Vi c.fin) rfl rfl rfl rfl (yT rfl rfl rfl (zC rfl (xP (q := c.fin < 0) 4 3 [53, 52, 51, 50] (r2_ = c.reply) rfl rfl rfl rfl rfl rfl trivial rfl (fun h5_3 => ?_) (fun g5_8 => ?_))))))
    ·
     refine zV rfl (gF h5_3) (yr (cs := (RepD.cells r2_)) 9 rfl rfl rfl (zV rfl (gF h5_3) (zc (o := 13) rfl rfl (zV rfl (gF h5_3) (zBz 2 (RepD.cells c.reply) rfl rfl (j0 13 rfl) (by kernel_rfl) rfl (zV rfl (gF h5_3) (zz rfl (zGK (zF7 r2_ c.reply) (by kernel_rfl) (by kernel_rfl) rfl rfl rfl rfl) ?_)))))))
     exact yg rfl (fun _ hw => hw)
    refine zH rfl (zA ?_)
    exact zR (z6 (v := .bool (decide ((c.fin < 0) ∨ (r2_ = c.reply)))) rfl rfl (fun w' hw => ⟨now, cnt'4_, kb'5_, kl'6_, kr'7_, (by congr 1; exact htc.1), by rw [htc.2]; exact hdo.2.1, hw.sel [0, 1, 3, 4, 5, 6, 7, 8] rfl (by decide)⟩))
   ·
    refine zP 10 rfl hw (yR (v := .agg #[Vn 0, Vn 0, Vi 0, Vn 0, Vi 0, Vi 0]) (by kernel_rfl) rfl (fun b7 => zF [0, 1, 8] rfl (by decide) (fun w' hw hS => zZ 6 rfl hw (zQ rfl rfl (fun w' hw => (zHp b tb cb bm lm rm idx now cnt kb kl kr c.cmd w' hcw.cmd (LSt.ht hT) (by rw [LSt.c hT]; omega) (LSt.lent1 hT _) (LSt.kl0 hT (by omega)) (hw.give [2, 3, 4, 5, 6, 7] rfl (by decide))).mono ?_)))))
    rintro _ w1 ⟨r8_, did9_, cnt'10_, kb'11_, kl'12_, kr'13_, rfl, hf4_6, hO⟩
    have hdo := hT.do hcw.cmd hn hf4_6
    have htc := zC3 (c := c) (by rw [c1]; decide) hdo.1.1
    refine (?_ : CL _ _ _ _ _ _ (Own w S [Res.row o 52 [.pointer (some ⟨b, 0, none⟩), v, dv], Res.vec 4 1 dv dn.length (dn.flatMap B1), Res.row b3 34 (CallD.cells c), Res.row b7 32 [Vn 0, Vn 0, Vi 0, Vn 0, Vi 0, Vi 0], Res.row b 60 [.pointer (some ⟨tb, 0, none⟩), .pointer (some ⟨cb, 0, none⟩), Vn idx], Res.row tb 71 [.map (some bm), .map (some lm), Vi now, Vn cnt'10_], Res.mp Value.string z4 bm kb'11_, Res.mp zx zY lm kl'12_, Res.row cb 89 [.map (some rm)], Res.mp yK zn rm kr'13_])) w1 (hw.frameL [2, 3, 4, 5, 6, 7] rfl hO)
    refine zF [0, 1, 2] rfl (by decide) (fun w' hw hS => zE 7 rfl (zJ) hS (zE 8 rfl (yh (vs := [.agg (RepD.cells r8_).toArray, .bool did9_]) rfl rfl) hS (zE 9 rfl (yh (vs := [.agg (RepD.cells r8_).toArray, .bool did9_]) rfl rfl) hS (zZ 11 rfl hw (zt 3 rfl rfl rfl (yC rfl) rfl (zF [0, 1, 2] rfl (by decide) (fun w' hw hS => zE 12 rfl (xN) hS (zK ?_))))))))
    refine (?_ : C _ _ _ _ _ _ _ (Own w S [Res.row o 52 [.pointer (some ⟨b, 0, none⟩), v, dv], Res.vec 4 1 dv dn.length (dn.flatMap B1), Res.row b3 34 (CallD.cells c), Res.row b7 32 (RepD.cells r8_), Res.row b 60 [.pointer (some ⟨tb, 0, none⟩), .pointer (some ⟨cb, 0, none⟩), Vn idx], Res.row tb 71 [.map (some bm), .map (some lm), Vi now, Vn cnt'10_], Res.mp Value.string z4 bm kb'11_, Res.mp zx zY lm kl'12_, Res.row cb 89 [.map (some rm)], Res.mp yK zn rm kr'13_])) _ hw
    refine zB (zc (o := 12) rfl rfl (ze 2 (v := Vi c.fin) rfl rfl rfl rfl (yT rfl rfl rfl (zC rfl (xP (q := c.fin < 0) 4 3 [53, 52, 51, 50] (r8_ = c.reply) rfl rfl rfl rfl rfl rfl trivial rfl (fun h5_3 => ?_) (fun g5_8 => ?_))))))
    ·
     refine zV rfl (gF h5_3) (yr (cs := (RepD.cells r8_)) 3 rfl rfl rfl (zV rfl (gF h5_3) (zc (o := 13) rfl rfl (zV rfl (gF h5_3) (zBz 2 (RepD.cells c.reply) rfl rfl (j0 13 rfl) (by kernel_rfl) rfl (zV rfl (gF h5_3) (zz rfl (zGK (zF7 r8_ c.reply) (by kernel_rfl) (by kernel_rfl) rfl rfl rfl rfl) ?_)))))))
     exact yg rfl (fun _ hw => hw)
    refine zH rfl (zA ?_)
    exact zR (z6 (v := .bool (decide ((c.fin < 0) ∨ (r8_ = c.reply)))) rfl rfl (fun w' hw => ⟨now, cnt'10_, kb'11_, kl'12_, kr'13_, (by congr 1; exact htc.1), by rw [htc.2]; exact hdo.2.1, hw.sel [0, 1, 4, 5, 6, 7, 8, 9] rfl (by decide)⟩))
theorem zFJ {S : List Nat} (o : Nat) (v dv : Value) (l : List CallD) (dn : List Bool) (b tb cb bm lm rm idx : Nat) (now : Int) (cnt : Nat) (kb : List (ByteArray × Int)) (kl : List (Nat × LeaD)) (kr : List (Nat × RepD)) (t : RL) (m : MovD) (w : World) (hT : LT idx now cnt kb kl kr t) (hcw : ∀ c ∈ l, c.wf) (hn : t.cnt < 1000000000) (hl : l.length ≤ 10000000) (hd : dn.length = l.length) (hmd : yd m.delta) (hin : Own w S [Res.row o 52 [.pointer (some ⟨b, 0, none⟩), v, dv], Res.vec 4 1 dv dn.length (dn.flatMap B1), Res.row b 60 [.pointer (some ⟨tb, 0, none⟩), .pointer (some ⟨cb, 0, none⟩), Vn idx], Res.row tb 71 [.map (some bm), .map (some lm), Vi now, Vn cnt], Res.mp Value.string z4 bm kb, Res.mp zx zY lm kl, Res.row cb 89 [.map (some rm)], Res.mp yK zn rm kr] w) (hv : Rd w S (Res.sl v l.length (l.flatMap CallD.cells))) : Rets Try.prog 9 #[.pointer (some ⟨o, 0, none⟩), .agg (MovD.cells m).toArray] w fun u_ w' => ∃ (dn' : List Bool) (now' : Int) (cnt' : Nat) (kb' : List (ByteArray × Int)) (kl' : List (Nat × LeaD)) (kr' : List (Nat × RepD)), u_ = Vi ((zq l ⟨t, dn⟩ m).1) ∧ ((zq l ⟨t, dn⟩ m).1 = 0 → dn' = (zq l ⟨t, dn⟩ m).2.done ∧ LT idx now' cnt' kb' kl' kr' (zq l ⟨t, dn⟩ m).2.t) ∧ Own w S [Res.row o 52 [.pointer (some ⟨b, 0, none⟩), v, dv], Res.vec 4 1 dv dn'.length (dn'.flatMap B1), Res.row b 60 [.pointer (some ⟨tb, 0, none⟩), .pointer (some ⟨cb, 0, none⟩), Vn idx], Res.row tb 71 [.map (some bm), .map (some lm), Vi now', Vn cnt'], Res.mp Value.string z4 bm kb', Res.mp zx zY lm kl', Res.row cb 89 [.map (some rm)], Res.mp yK zn rm kr'] w' := by
  have htm := LSt.ht hT
  refine zg Try.func9 rfl Try.ntmps9 hin ?_
  refine zB (ya rfl rfl (fun b3 => zH rfl (zA (zO (kw (by kernel_rfl) (by kernel_rfl) (zm rfl (zk (o := 0) rfl) (zm rfl (zp 8 (v := Vi m.call) rfl rfl rfl) (zm rfl (zJ) (zm rfl (zo rfl) (zm rfl (zk (o := 1) rfl) (zm rfl (zp 0 (v := v) rfl rfl rfl) (zm rfl (zFs (pR hv) rfl) ?_))))))))))))
  refine zm rfl (zHr rfl rfl) (zm rfl (zJ) (zHv (q := ((l.length : Nat) : Int) ≤ m.call) 3 8 [18, 17, 16] (m.delta < 0) rfl rfl rfl rfl rfl rfl trivial rfl (fun h1_8 => ?_) (fun g1_12 => ?_)))
  ·
   refine y9 rfl (gF h1_8) (zm rfl (zk (o := 1) rfl) (y9 rfl (gF h1_8) (zm rfl (zp 8 (v := Vi m.delta) rfl rfl rfl) (y9 rfl (gF h1_8) (zm rfl (zDy rfl rfl) ?_)))))
   exact zFL rfl
  refine zm rfl (zJ) (zHv (q := (((l.length : Nat) : Int) ≤ m.call) ∨ (m.delta < 0)) 3 13 [23, 22, 21] (1099511627776 < m.delta) rfl rfl rfl rfl rfl rfl trivial rfl (fun h1_13 => ?_) (fun g1_17 => ?_))
  ·
   refine y9 rfl (gF h1_13) (zm rfl (zk (o := 1) rfl) (y9 rfl (gF h1_13) (zm rfl (zp 8 (v := Vi m.delta) rfl rfl rfl) (y9 rfl (gF h1_13) (zm rfl (zCY rfl rfl) ?_)))))
   exact zFL rfl
  refine zDF (zU rfl (fun c1 => ?_) (fun c1 => ?_))
  ·
   refine zB (zH rfl (zA ?_))
   exact zR (z6 (v := Vi 1) rfl rfl (fun w' hw => ⟨dn, now, cnt, kb, kl, kr, (zCl (mv1 c1)), zEk (mv1 c1) (by decide), hw.sel [0, 1, 2, 3, 4, 5, 6, 7] rfl (by decide)⟩))
  ·
   refine zM (zO (zB (zc (o := 0) rfl rfl (ze 8 (v := Vi m.call) rfl rfl rfl rfl (yY rfl rfl rfl (zA (zU rfl (fun c2 => ?_) (fun c2 => ?_))))))))
   ·
    have hcl : m.call.toNat < l.length := by omega
    have hcd : m.call.toNat < dn.length := by omega
    refine zT (kw (by kernel_rfl) (by kernel_rfl) (zm rfl (zJ) (zm rfl (zo rfl) (zm rfl (zk (o := 2) rfl) (zm rfl (zp 0 (v := dv) rfl rfl rfl) (zm rfl (zk (o := 0) rfl) (zm rfl (zp 8 (v := Vi m.call) rfl rfl rfl) (zm rfl (z7 (pV 1 rfl) 1 ((m.call).toNat) rfl rfl (by omega) (by omega)) (zm rfl (yL (pV 1 rfl) 1 ((m.call).toNat) 0 (fun _ => rfl) rfl rfl (by omega) rfl) (zm rfl (xN) (zDF (jw rfl (fun c3 => ?_) (fun c3 => ?_)))))))))))))
    ·
     refine zB (zH rfl (zA ?_))
     exact zR (z6 (v := Vi 9) rfl rfl (fun w' hw => ⟨dn, now, cnt, kb, kl, kr, (zCl (mv9 c1 c2 c3)), zEk (mv9 c1 c2 c3) (by decide), hw.sel [0, 1, 2, 3, 4, 5, 6, 7] rfl (by decide)⟩))
    ·
     refine zB (zC rfl (zc (o := 0) rfl rfl (ze 8 (v := Vi m.call) rfl rfl rfl rfl (zQ rfl rfl (fun w' hw => (zGf o b v dv l dn m.call w' (by first | omega | (simp <;> omega)) (by first | omega | (simp <;> omega)) (by first | omega | (simp <;> omega)) (by first | omega | (simp <;> omega)) (hw.give [0, 1] rfl (by decide)) (hw.rdTo hv [0, 1] rfl)).mono ?_)))))
     rintro _ w1 ⟨rfl, hO⟩
     refine (?_ : CL _ _ _ _ _ _ (Own w S [Res.row b 60 [.pointer (some ⟨tb, 0, none⟩), .pointer (some ⟨cb, 0, none⟩), Vn idx], Res.row tb 71 [.map (some bm), .map (some lm), Vi now, Vn cnt], Res.mp Value.string z4 bm kb, Res.mp zx zY lm kl, Res.row cb 89 [.map (some rm)], Res.mp yK zn rm kr, Res.row b3 38 (MovD.cells m), Res.row o 52 [.pointer (some ⟨b, 0, none⟩), v, dv], Res.vec 4 1 dv dn.length (dn.flatMap B1)])) w1 (hw.frameL [0, 1] rfl hO)
     refine zH rfl (zA (zU rfl (fun c4 => ?_) (fun c4 => ?_)))
     ·
      refine zB (zH rfl (zA ?_))
      exact zR (z6 (v := Vi 20) rfl rfl (fun w' hw => ⟨dn, now, cnt, kb, kl, kr, (zCl (zJP c1 c2 c3 c4)), zEk (zJP c1 c2 c3 c4) (by decide), hw.sel [7, 8, 0, 1, 2, 3, 4, 5] rfl (by decide)⟩))
     ·
      have hce : zG dn m.call.toNat = false ∧ ¬ kP l dn (zG l m.call.toNat) := ⟨c3, c4⟩
      refine zM (zO (zO (zW [0, 2, 4, 5, 6, 7, 8] rfl (by decide) (by kernel_rfl) (fun w' hw hS => zE 0 rfl (zJ) hS (zE 1 rfl (zo rfl) hS (zE 2 rfl (zk (o := 0) rfl) hS (zE 3 rfl (zp 5 (v := .pointer (some ⟨b, 0, none⟩)) rfl rfl rfl) hS (zE 4 rfl (zo rfl) hS (zE 5 rfl (zk (o := 0) rfl) hS (zE 6 rfl (zp 0 (v := .pointer (some ⟨tb, 0, none⟩)) rfl rfl rfl) hS (zE 7 rfl (zk (o := 1) rfl) hS (zE 8 rfl (zp 4 (v := Vi m.delta) rfl rfl rfl) hS ?_))))))))))))
      refine zZ 9 rfl hw (zQ rfl rfl (fun w' hw => (zE4 tb bm lm now cnt kl m.delta w' (by first | omega | (simp <;> omega)) ‹_› (LSt.nd hT) (LSt.len hT) (hw.give [1, 3] rfl (by decide))).mono ?_))
      rintro _ w1 ⟨gv1_, gs2_, e3_, now'4_, kl'5_, rfl, hf8_9, hf8_9_1, hf8_9_2, hf8_9_3, hf8_9_4, hO⟩
      have hTp := hT.pass hmd hf8_9_1 hf8_9_2
      have hpe := hf8_9
      have hne : ∀ q : yQ now m.delta ≠ 0, yQ t.now m.delta ≠ 0 := fun q => by rw [← LSt.n hT]; exact q
      refine (?_ : CL _ _ _ _ _ _ (Own w S [Res.row b 60 [.pointer (some ⟨tb, 0, none⟩), .pointer (some ⟨cb, 0, none⟩), Vn idx], Res.mp Value.string z4 bm kb, Res.row cb 89 [.map (some rm)], Res.mp yK zn rm kr, Res.row b3 38 (MovD.cells m), Res.row o 52 [.pointer (some ⟨b, 0, none⟩), v, dv], Res.vec 4 1 dv dn.length (dn.flatMap B1), Res.row tb 71 [.map (some bm), .map (some lm), Vi now'4_, Vn cnt], Res.mp zx zY lm kl'5_, Res.vec 28 1 gv1_ gs2_.length (gs2_.flatMap U1)])) w1 (hw.frameL [1, 3] rfl hO)
      refine zF [0, 1, 2, 3, 4, 5, 6] rfl (by decide) (fun w' hw hS => zE 10 rfl (zJ) hS (zE 11 rfl (yh (vs := [gv1_, Vi e3_]) rfl rfl) hS (zE 12 rfl (yh (vs := [gv1_, Vi e3_]) rfl rfl) hS (zE 13 rfl (xN) hS (zE 14 rfl (xN) hS (zK ?_))))))
      refine (?_ : C _ _ _ _ _ _ _ (Own w S [Res.row b 60 [.pointer (some ⟨tb, 0, none⟩), .pointer (some ⟨cb, 0, none⟩), Vn idx], Res.mp Value.string z4 bm kb, Res.row cb 89 [.map (some rm)], Res.mp yK zn rm kr, Res.row b3 38 (MovD.cells m), Res.row o 52 [.pointer (some ⟨b, 0, none⟩), v, dv], Res.vec 4 1 dv dn.length (dn.flatMap B1), Res.row tb 71 [.map (some bm), .map (some lm), Vi now'4_, Vn cnt], Res.mp zx zY lm kl'5_, Res.vec 28 1 gv1_ gs2_.length (gs2_.flatMap U1)])) _ hw
      refine zB (zC rfl (jU rfl rfl rfl (zA (zU rfl (fun c5 => ?_) (fun c5 => ?_)))))
      ·
       refine zB (zC rfl (zH rfl (zA ?_)))
       exact zR (z6 (v := Vi e3_) rfl rfl (fun w' hw => ⟨dn, now'4_, cnt, kb, kl'5_, kr, (by rw [hpe, LSt.n hT]; exact zCl (mvE c1 (fun _ => hce) (hne (by rw [← hpe]; exact c5)))), zEk (mvE c1 (fun _ => hce) (hne (by rw [← hpe]; exact c5))) (hne (by rw [← hpe]; exact c5)), hw.sel [5, 6, 0, 7, 1, 8, 2, 3] rfl (by decide)⟩))
      ·
       have hok : ¬ yQ t.now m.delta ≠ 0 := by rw [← LSt.n hT, ← hpe]; exact c5
       refine zM (zO (zB (zc (o := 0) rfl rfl (ze 4 (v := Vi m.call) rfl rfl rfl rfl (yY rfl rfl rfl (zA (zIe rfl c2 (zO (zW [0, 1, 2, 3, 4, 5, 7, 8, 9] rfl (by decide) (by kernel_rfl) (fun w' hw hS => zE 0 rfl (zJ) hS (zE 1 rfl (zo rfl) hS (zE 2 rfl (zk (o := 2) rfl) hS ?_))))))))))))
       refine zE 3 rfl (zp 5 (v := dv) rfl rfl rfl) hS (zE 4 rfl (zk (o := 0) rfl) hS (zE 5 rfl (zp 4 (v := Vi m.call) rfl rfl rfl) hS (zZ 6 rfl hw (zD (pV 6 rfl) 1 ((m.call).toNat) rfl rfl (by omega) (by omega) rfl (zF [0, 1, 2, 3, 4, 5, 7, 8, 9] rfl (by decide) (fun w' hw hS => zZ 7 rfl hw (zN 6 ((m.call).toNat) true rfl (fun _ => rfl) rfl (by omega) rfl rfl rfl (by omega) (zF [0, 1, 2, 3, 4, 5, 7, 8, 9] rfl (by decide) (fun w' hw hS => zK ?_)))))))))
       refine (?_ : C _ _ _ _ _ _ _ (Own w S [Res.row b 60 [.pointer (some ⟨tb, 0, none⟩), .pointer (some ⟨cb, 0, none⟩), Vn idx], Res.mp Value.string z4 bm kb, Res.row cb 89 [.map (some rm)], Res.mp yK zn rm kr, Res.row b3 38 (MovD.cells m), Res.row o 52 [.pointer (some ⟨b, 0, none⟩), v, dv], Res.vec 4 1 dv (dn.set ((m.call).toNat) true).length ((dn.set ((m.call).toNat) true).flatMap B1), Res.row tb 71 [.map (some bm), .map (some lm), Vi now'4_, Vn cnt], Res.mp zx zY lm kl'5_, Res.vec 28 1 gv1_ gs2_.length (gs2_.flatMap U1)])) _ hw
       refine zO (zW [4, 9] rfl (by decide) (by kernel_rfl) (fun w' hw hS => zE 0 rfl (zJ) hS (zE 1 rfl (zJ) hS (zE 2 rfl (zo rfl) hS (zE 3 rfl (zk (o := 1) rfl) hS (zE 5 rfl (zk (o := 0) rfl) hS (zE 6 rfl (zp 0 (v := Vi m.call) rfl rfl rfl) hS (zZ 4 rfl hw (ze 5 (v := v) rfl rfl rfl rfl (zF [4, 9] rfl (by decide) (fun w' hw hS => zE 7 rfl (z7 (pR hv) 21 ((m.call).toNat) rfl rfl (by omega) (by omega)) hS (zE 8 rfl (zIP (pR hv) 21 ((m.call).toNat) (off := yx v + ((m.call).toNat) * 21) (fun _ => rfl) rfl rfl (by omega)) hS ?_))))))))))))
       refine zZ 9 rfl hw (zQ rfl rfl (fun w' hw => (zGk o v dv l (dn.set ((m.call).toNat) true) b tb cb bm lm rm idx now'4_ cnt kb kl'5_ kr (x3 t m.delta) (zG l ((m.call).toNat)) w' hTp (hcw _ (yH hcl)) hn (hw.give [5, 6, 0, 7, 1, 8, 2, 3] rfl (by decide)) (hw.rdTo hv [5, 6, 0, 7, 1, 8, 2, 3] rfl)).mono ?_))
       rintro _ w1 ⟨now'6_, cnt'7_, kb'8_, kl'9_, kr'10_, rfl, hf13_9, hO⟩
       refine (?_ : CL _ _ _ _ _ _ (Own w S [Res.row b3 38 (MovD.cells m), Res.vec 28 1 gv1_ gs2_.length (gs2_.flatMap U1), Res.row o 52 [.pointer (some ⟨b, 0, none⟩), v, dv], Res.vec 4 1 dv (dn.set ((m.call).toNat) true).length ((dn.set ((m.call).toNat) true).flatMap B1), Res.row b 60 [.pointer (some ⟨tb, 0, none⟩), .pointer (some ⟨cb, 0, none⟩), Vn idx], Res.row tb 71 [.map (some bm), .map (some lm), Vi now'6_, Vn cnt'7_], Res.mp Value.string z4 bm kb'8_, Res.mp zx zY lm kl'9_, Res.row cb 89 [.map (some rm)], Res.mp yK zn rm kr'10_])) w1 (hw.frameL [5, 6, 0, 7, 1, 8, 2, 3] rfl hO)
       refine zF [0, 1] rfl (by decide) (fun w' hw hS => zE 10 rfl (zH3 (b := (yy (x3 t m.delta) (zG l ((m.call).toNat))).1) rfl) hS (zK ?_))
       refine (?_ : C _ _ _ _ _ _ _ (Own w S [Res.row b3 38 (MovD.cells m), Res.vec 28 1 gv1_ gs2_.length (gs2_.flatMap U1), Res.row o 52 [.pointer (some ⟨b, 0, none⟩), v, dv], Res.vec 4 1 dv (dn.set ((m.call).toNat) true).length ((dn.set ((m.call).toNat) true).flatMap B1), Res.row b 60 [.pointer (some ⟨tb, 0, none⟩), .pointer (some ⟨cb, 0, none⟩), Vn idx], Res.row tb 71 [.map (some bm), .map (some lm), Vi now'6_, Vn cnt'7_], Res.mp Value.string z4 bm kb'8_, Res.mp zx zY lm kl'9_, Res.row cb 89 [.map (some rm)], Res.mp yK zn rm kr'10_])) _ hw
       refine jw rfl (fun c7 => ?_) (fun c7 => ?_)
       ·
        refine zB (zH rfl (zA ?_))
        exact zR (z6 (v := Vi 18) rfl rfl (fun w' hw => ⟨dn.set m.call.toNat true, now'6_, cnt'7_, kb'8_, kl'9_, kr'10_, (by have h := mvC (s := ⟨t, dn⟩) c1 c2 hce hok; rw [if_neg (by rw [notFi.1 c7]; decide)] at h; exact zCl h), by have h := mvC (s := ⟨t, dn⟩) c1 c2 hce hok; rw [if_neg (by rw [notFi.1 c7]; decide)] at h; exact zEk h (by decide), hw.sel [2, 3, 4, 5, 6, 7, 8, 9] rfl (by decide)⟩))
       ·
        refine zM (zB (zH rfl (zA ?_)))
        exact zR (z6 (v := Vi 0) rfl rfl (fun w' hw => ⟨dn.set m.call.toNat true, now'6_, cnt'7_, kb'8_, kl'9_, kr'10_, (by have h := mvC (s := ⟨t, dn⟩) c1 c2 hce hok; rw [if_pos (zKO c7)] at h; exact zCl h), by have h := mvC (s := ⟨t, dn⟩) c1 c2 hce hok; intro _; rw [h]; exact ⟨rfl, hf13_9⟩, hw.sel [2, 3, 4, 5, 6, 7, 8, 9] rfl (by decide)⟩))
   ·
    refine zM (zO (zO (zW [0, 1, 2, 4, 6, 7, 8] rfl (by decide) (by kernel_rfl) (fun w' hw hS => zE 0 rfl (zJ) hS (zE 1 rfl (zo rfl) hS (zE 2 rfl (zk (o := 0) rfl) hS (zE 3 rfl (zp 0 (v := .pointer (some ⟨b, 0, none⟩)) rfl rfl rfl) hS (zE 4 rfl (zo rfl) hS (zE 5 rfl (zk (o := 0) rfl) hS (zE 6 rfl (zp 2 (v := .pointer (some ⟨tb, 0, none⟩)) rfl rfl rfl) hS (zE 7 rfl (zk (o := 1) rfl) hS (zE 8 rfl (zp 6 (v := Vi m.delta) rfl rfl rfl) hS ?_))))))))))))
    refine zZ 9 rfl hw (zQ rfl rfl (fun w' hw => (zE4 tb bm lm now cnt kl m.delta w' (by first | omega | (simp <;> omega)) ‹_› (LSt.nd hT) (LSt.len hT) (hw.give [3, 5] rfl (by decide))).mono ?_))
    rintro _ w1 ⟨gv11_, gs12_, e13_, now'14_, kl'15_, rfl, hf8_9, hf8_9_1, hf8_9_2, hf8_9_3, hf8_9_4, hO⟩
    have hTp := hT.pass hmd hf8_9_1 hf8_9_2
    have hpe := hf8_9
    have hne : ∀ q : yQ now m.delta ≠ 0, yQ t.now m.delta ≠ 0 := fun q => by rw [← LSt.n hT]; exact q
    refine (?_ : CL _ _ _ _ _ _ (Own w S [Res.row o 52 [.pointer (some ⟨b, 0, none⟩), v, dv], Res.vec 4 1 dv dn.length (dn.flatMap B1), Res.row b 60 [.pointer (some ⟨tb, 0, none⟩), .pointer (some ⟨cb, 0, none⟩), Vn idx], Res.mp Value.string z4 bm kb, Res.row cb 89 [.map (some rm)], Res.mp yK zn rm kr, Res.row b3 38 (MovD.cells m), Res.row tb 71 [.map (some bm), .map (some lm), Vi now'14_, Vn cnt], Res.mp zx zY lm kl'15_, Res.vec 28 1 gv11_ gs12_.length (gs12_.flatMap U1)])) w1 (hw.frameL [3, 5] rfl hO)
    refine zF [0, 1, 2, 3, 4, 5, 6] rfl (by decide) (fun w' hw hS => zE 10 rfl (zJ) hS (zE 11 rfl (yh (vs := [gv11_, Vi e13_]) rfl rfl) hS (zE 12 rfl (yh (vs := [gv11_, Vi e13_]) rfl rfl) hS (zE 13 rfl (xN) hS (zE 14 rfl (xN) hS (zK ?_))))))
    refine (?_ : C _ _ _ _ _ _ _ (Own w S [Res.row o 52 [.pointer (some ⟨b, 0, none⟩), v, dv], Res.vec 4 1 dv dn.length (dn.flatMap B1), Res.row b 60 [.pointer (some ⟨tb, 0, none⟩), .pointer (some ⟨cb, 0, none⟩), Vn idx], Res.mp Value.string z4 bm kb, Res.row cb 89 [.map (some rm)], Res.mp yK zn rm kr, Res.row b3 38 (MovD.cells m), Res.row tb 71 [.map (some bm), .map (some lm), Vi now'14_, Vn cnt], Res.mp zx zY lm kl'15_, Res.vec 28 1 gv11_ gs12_.length (gs12_.flatMap U1)])) _ hw
    refine zB (zC rfl (jU rfl rfl rfl (zA (zU rfl (fun c8 => ?_) (fun c8 => ?_)))))
    ·
     refine zB (zC rfl (zH rfl (zA ?_)))
     exact zR (z6 (v := Vi e13_) rfl rfl (fun w' hw => ⟨dn, now'14_, cnt, kb, kl'15_, kr, (by rw [hpe, LSt.n hT]; exact zCl (mvE c1 (fun q => absurd q c2) (hne (by rw [← hpe]; exact c8)))), zEk (mvE c1 (fun q => absurd q c2) (hne (by rw [← hpe]; exact c8))) (hne (by rw [← hpe]; exact c8)), hw.sel [0, 1, 2, 7, 3, 8, 4, 5] rfl (by decide)⟩))
    ·
     have hok : ¬ yQ t.now m.delta ≠ 0 := by rw [← LSt.n hT, ← hpe]; exact c8
     refine zM (zO (zB (zc (o := 0) rfl rfl (ze 6 (v := Vi m.call) rfl rfl rfl rfl (yY rfl rfl rfl (zA (zIR rfl c2 (zM (zB (zH rfl (zA ?_)))))))))))
     exact zR (z6 (v := Vi 0) rfl rfl (fun w' hw => ⟨dn, now'14_, cnt, kb, kl'15_, kr, (zCl (mvN c1 c2 hok)), by rw [mvN c1 c2 hok]; exact fun _ => ⟨rfl, hTp⟩, hw.sel [0, 1, 2, 7, 3, 8, 4, 5] rfl (by decide)⟩))
end Go.Proofs.Ytcdiehplbmkmeaa
