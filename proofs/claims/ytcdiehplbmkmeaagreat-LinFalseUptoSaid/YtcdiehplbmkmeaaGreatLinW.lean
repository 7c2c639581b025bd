import Derived.Test.YtcdiehplbmkmeaaGreatLinP
import Derived.Test.YtcdiehplbmkmeaaGreatLinC
import Derived.Test.YtcdiehplbmkmeaaGreatLedW
import Derived.Test.YtcdiehplbmkmeaaGreatFwZ
set_option linter.unusedSectionVars false
set_option linter.unusedSimpArgs false
set_option linter.unusedVariables false
set_option maxRecDepth 10000
namespace Go.Proofs.YtcdiehplbmkmeaaGreat
open Go Go.Sc Go.Proofs
theorem zHU {P : Program} {kt : TypeId} {q : IntKind} (h : zFj P kt = some q) : KeyL P kt (fun n : Int => Value.int q n) := by
  unfold zFj at h
  split at h
  · rename_i k hk
    simp at h; subst h
    refine ⟨⟨_, hk, fun a b => ?_, .inl ⟨_, rfl⟩⟩, fun a => ?_⟩
    · simp only [Instr.sameNow, if_true]
      congr 1
    · simp [Instr.sameBits]
  · cases h
def zE6 (l : CallD) : Value := .agg l.cells.toArray
def kI : CallD := ⟨0, false, false, zIh, ⟨#[]⟩, 0, 0, repZ, 0, 0⟩
theorem zK1 : KeyL Tryz.prog 3 yE := zHU (by kernel_rfl)
theorem zLR : x3 Tryz.prog 85 = some (3, 56) := by kernel_rfl
theorem zK3 : kM Tryz.prog 56 = some (zE6 kI) := by kernel_rfl
def LastI (l : List CallD) (i : Nat) (kl : List (Int × CallD)) : Prop := ∀ e, zf e kl = y5 (l.take i) e
theorem LastI.start (l : List CallD) : LastI l 0 [] := fun e => rfl
theorem LastI.next {l : List CallD} {i : Nat} {kl : List (Int × CallD)} (h : LastI l i kl) (hi : i < l.length) : LastI l (i + 1) (y6 (zG l i).edge (zG l i) kl) := fun e => by
  rw [zDg, h e, yP hi, kY]
  by_cases q : e = (zG l i).edge
  · rw [if_pos q, if_pos q.symm]
  · rw [if_neg q, if_neg fun k => q k.symm]
theorem zDz {c : CallD} (h1 : ¬ (c.beg < 0 ∨ (0 ≤ c.fin ∧ c.fin < c.beg))) (h2 : c.look = true) : (c.cmd = ({ session := 0, seq := 0, op := 0, key := (⟨#[]⟩ : ByteArray), amount := 0, span := 0, lease := 0 } : CmdD)) ↔ c.single := by
  unfold CallD.single; rw [if_pos h2]; exact ⟨fun h => ⟨h1, h⟩, fun h => h.2⟩
theorem zEB {c : CallD} (h1 : ¬ (c.beg < 0 ∨ (0 ≤ c.fin ∧ c.fin < c.beg))) (h2 : ¬ c.look = true) : (((((yl c.cmd.ok) = 0) ∧ (((0 : Nat) : Int) < ((c.cmd.session : Nat) : Int))) ∧ (((0 : Nat) : Int) < ((c.cmd.seq : Nat) : Int))) ∧ (c.key = (⟨#[]⟩ : ByteArray))) ↔ c.single := by
  unfold CallD.single; rw [if_neg h2, errOf_zero]
  constructor
  · rintro ⟨⟨⟨a, b⟩, d⟩, e⟩; exact ⟨h1, ⟨⟨a, by omega⟩, by omega⟩, e⟩
  · rintro ⟨_, ⟨⟨a, b⟩, d⟩, e⟩; exact ⟨⟨⟨a, by omega⟩, by omega⟩, e⟩
theorem zGA {l : List CallD} {n : Nat} (hn : n < l.length) (h : ¬ ((zG l n).single ∧ zA3 (y5 (l.take n) (zG l n).edge) (zG l n))) : ¬ xD l := fun q => h (q n hn)
abbrev zGw (o : Option CallD) (c : CallD) : Prop := (o.isSome = true) ∧ ((((o.getD kI).fin) < 0) ∨ (c.beg ≤ ((o.getD kI).fin)))
theorem late_iff {o : Option CallD} {c : CallD} : zGw o c ↔ ¬ zA3 o c := by
  cases o with
  | none => simp [zA3, zGw]
  | some p => simp only [zGw, zA3, Option.isSome_some, Option.getD_some, true_and, Decidable.not_not]
theorem zGP (c : CallD) (w : World) (hc : c.wf) : Rets Tryz.prog 29 #[.agg (CallD.cells c).toArray] w fun u_ w' => u_ = .bool (decide c.single) ∧ Own w [] [] w' := by
  have hcm := hc.cmd
  have hck := hcm.key
  refine ze Tryz.func29 rfl Tryz.ntmps29 (Own.start w) ?_
  refine zB (yj rfl rfl (fun b1 => zH rfl (zA (zL (zB (zO (o := 11) rfl rfl (zU 0 (v := Vi c.beg) rfl rfl rfl rfl (z9 rfl rfl rfl (zC rfl (yk (q := c.beg < 0) 10 3 [18, 17, 16, 15, 14, 13, 12, 11, 10, 9] ((0 ≤ c.fin) ∧ (c.fin < c.beg)) rfl rfl rfl rfl rfl rfl trivial rfl (fun h1_3 => ?_) (fun g1_14 => ?_)))))))))))
  ·
   refine zR rfl (gF h1_3) (zO (o := 12) rfl rfl (zR rfl (gF h1_3) (zU 0 (v := Vi c.fin) rfl rfl rfl rfl (zR rfl (gF h1_3) (yU rfl rfl rfl (zR rfl (gF h1_3) (zC rfl (yD (q := 0 ≤ c.fin) 5 7 [17, 16, 15, 14, 13] (c.fin < c.beg) rfl rfl rfl rfl rfl rfl ⟨_, rfl, rfl, gF h1_3⟩ rfl (fun h1_7 => ?_) (fun g1_13 => ?_)))))))))
   ·
    refine zR rfl (gT h1_7) (zO (o := 12) rfl rfl (zR rfl (gT h1_7) (zU 0 (v := Vi c.fin) rfl rfl rfl rfl (zR rfl (gT h1_7) (zO (o := 11) rfl rfl (zR rfl (gT h1_7) (zU 0 (v := Vi c.beg) rfl rfl rfl rfl (zR rfl (gT h1_7) (z9 rfl rfl rfl ?_)))))))))
    exact yH rfl (fun _ hw => hw)
   exact yH rfl (fun _ hw => hw)
  refine zA (zV rfl (fun c1 => ?_) (fun c1 => ?_))
  ·
   refine zB (zH rfl (zA ?_))
   exact zN (z4 (v := .bool false) rfl rfl (fun w' hw => ⟨(by congr 1; exact (decide_eq_false (fun q : c.single => q.1 c1)).symm), hw.drop⟩))
  ·
   refine zJ (zL (zB (zO (o := 1) rfl rfl (zU 0 (v := .bool c.look) rfl rfl rfl rfl (zA (jm rfl (fun c2 => ?_) (fun c2 => ?_)))))))
   ·
    refine zB (zO (o := 3) rfl rfl (zAw 0 (CmdD.cells c.cmd) rfl rfl (kV 3 rfl) (by kernel_rfl) rfl (z8 (cs := [Vn 0, Vn 0, Vi 0, .string (⟨#[]⟩ : ByteArray), Vi 0, Vi 0, Vn 0]) (z := [Vn 0, Vn 0, Vi 0, .string (⟨#[]⟩ : ByteArray), Vi 0, Vi 0, Vn 0]) (pl := [(0, 1), (1, 1), (2, 1), (3, 1), (4, 1), (5, 1), (6, 1)]) (by kernel_rfl) (by kernel_rfl) rfl (z5 rfl (zGl (zHi c.cmd ({ session := 0, seq := 0, op := 0, key := (⟨#[]⟩ : ByteArray), amount := 0, span := 0, lease := 0 } : CmdD)) (by kernel_rfl) (by kernel_rfl) rfl rfl rfl rfl) (zH rfl (zA ?_))))))
    exact zN (z4 (v := .bool (decide (c.cmd = ({ session := 0, seq := 0, op := 0, key := (⟨#[]⟩ : ByteArray), amount := 0, span := 0, lease := 0 } : CmdD)))) rfl rfl (fun w' hw => ⟨(by congr 1; exact decide_eq_decide.2 (zDz c1 c2)), hw.drop⟩))
   ·
    refine zJ (zB (zO (o := 3) rfl rfl (zAw 0 (CmdD.cells c.cmd) rfl rfl (kV 3 rfl) (by kernel_rfl) rfl (zQ rfl rfl (fun w' hw => (zAT c.cmd w' ‹_›).mono ?_)))))
    rintro _ w1 ⟨r1_, rfl, hO⟩
    refine (?_ : CL _ _ _ _ _ _ (Own w [] [Res.row b1 56 (CallD.cells c), Res.vec 5 1 r1_ (if c.cmd.ok then c.cmd.enc else []).length ((if c.cmd.ok then c.cmd.enc else []).map vb)])) w1 (hw.frame0 hO)
    refine zC rfl (zr (vs := [r1_, Vi (yl c.cmd.ok)]) rfl rfl rfl (zr (vs := [r1_, Vi (yl c.cmd.ok)]) rfl rfl rfl (zH rfl (zH rfl (zA (zB (zC rfl (yV rfl rfl rfl (zC rfl (yD (q := (yl c.cmd.ok) = 0) 4 2 [38, 37, 36, 35] (((0 : Nat) : Int) < ((c.cmd.session : Nat) : Int)) rfl rfl rfl rfl rfl rfl trivial rfl (fun h6_2 => ?_) (fun g6_7 => ?_)))))))))))
    ·
     refine zR rfl (gT h6_2) (zO (o := 3) rfl rfl (zR rfl (gT h6_2) (zO (o := 0) rfl rfl (zR rfl (gT h6_2) (zU 0 (v := Vn c.cmd.session) rfl rfl rfl rfl (zR rfl (gT h6_2) (xF rfl rfl rfl ?_)))))))
     exact yH rfl (fun _ hw => hw)
    refine zC rfl (yD (q := ((yl c.cmd.ok) = 0) ∧ (((0 : Nat) : Int) < ((c.cmd.session : Nat) : Int))) 4 8 [44, 43, 42, 41] (((0 : Nat) : Int) < ((c.cmd.seq : Nat) : Int)) rfl rfl rfl rfl rfl rfl trivial rfl (fun h6_8 => ?_) (fun g6_13 => ?_))
    ·
     refine zR rfl (gT h6_8) (zO (o := 3) rfl rfl (zR rfl (gT h6_8) (zO (o := 1) rfl rfl (zR rfl (gT h6_8) (zU 0 (v := Vn c.cmd.seq) rfl rfl rfl rfl (zR rfl (gT h6_8) (xF rfl rfl rfl ?_)))))))
     exact yH rfl (fun _ hw => hw)
    refine zC rfl (yD (q := (((yl c.cmd.ok) = 0) ∧ (((0 : Nat) : Int) < ((c.cmd.session : Nat) : Int))) ∧ (((0 : Nat) : Int) < ((c.cmd.seq : Nat) : Int))) 3 14 [49, 48, 47] (c.key = (⟨#[]⟩ : ByteArray)) rfl rfl rfl rfl rfl rfl trivial rfl (fun h6_14 => ?_) (fun g6_18 => ?_))
    ·
     refine zR rfl (gT h6_14) (zO (o := 10) rfl rfl (zR rfl (gT h6_14) (zU 0 (v := .string c.key) rfl rfl rfl rfl (zR rfl (gT h6_14) (zE9 rfl rfl rfl ?_)))))
     exact yH rfl (fun _ hw => hw)
    refine zH rfl (zA ?_)
    exact zN (z4 (v := .bool (decide (((((yl c.cmd.ok) = 0) ∧ (((0 : Nat) : Int) < ((c.cmd.session : Nat) : Int))) ∧ (((0 : Nat) : Int) < ((c.cmd.seq : Nat) : Int))) ∧ (c.key = (⟨#[]⟩ : ByteArray))))) rfl rfl (fun w' hw => ⟨(by congr 1; exact decide_eq_decide.2 (zEB c1 (by rw [c2]; decide))), hw.drop⟩))
theorem zHf (v : Value) (l : List CallD) (w : World) (hcw : ∀ c ∈ l, c.wf) (hl : l.length ≤ 10000000) (hv : Rd w [] (Res.sl v l.length (l.flatMap CallD.cells))) : Rets Tryz.prog 14 #[v] w fun u_ w' => u_ = Vi (if xD l then (0 : Int) else 2) ∧ Own w [] [] w' := by
  refine ze Tryz.func14 rfl Tryz.ntmps14 (Own.start w) ?_
  refine zB (zH rfl (zA (zB (zAo (α := CallD) yE zE6 rfl rfl (fun m8 => zH rfl (zA (zL (zB (zC rfl (yY (pR hv) rfl rfl (zC rfl (zA ?_))))))))))))
  refine zW ?_
  refine xB (fun (i : Nat) (kl : List (Int × CallD)) => [(3, .map (some m8)), (9, v), (10, Vj l.length), (11, Vj i)]) (fun (i : Nat) (kl : List (Int × CallD)) => i ≤ l.length ∧ LastI l i kl ∧ SoundTo l i) (fun (i : Nat) (kl : List (Int × CallD)) => [Res.mp yE zE6 m8 kl]) (fun (i : Nat) (kl : List (Int × CallD)) => l.length - i) (fun w' hw => ⟨0, [], ⟨rfl, rfl, rfl, rfl, trivial⟩, ⟨Nat.zero_le _, LastI.start l, SoundTo.start l⟩, hw⟩) (fun i kl g hΦ => ?_)
  have hi := hΦ.1
  have hL := hΦ.2.1
  have hS := hΦ.2.2
  refine zB (z9 rfl rfl rfl (zA (zL (zV rfl (fun c1 => ?_) (fun c1 => ?_)))))
  ·
   have hil : i < l.length := by omega
   have hg := hL (zG l i).edge
   refine zJ (zL (zW (zB (zF (pR hv) 21 i rfl rfl rfl (by omega) rfl (x2 (pR hv) 21 i (off := yK v + i * 21) (fun _ => rfl) rfl rfl (by omega) rfl (yG (v := .agg #[Vi 0, .bool false, .bool false, Vn 0, Vn 0, Vi 0, .string (⟨#[]⟩ : ByteArray), Vi 0, Vi 0, Vn 0, .string (⟨#[]⟩ : ByteArray), Vi 0, Vi 0, Vn 0, Vn 0, Vi 0, Vn 0, Vi 0, Vi 0, Vi 0, Vi 0]) (by kernel_rfl) rfl (fun b5 => zm 1 rfl rfl rfl (zw rfl) rfl (zA (zB (zC rfl (zO (o := 0) rfl rfl (zU 1 (v := Vi ((zG l i).edge)) rfl rfl rfl rfl ?_))))))))))))
   refine zBi (k := (zG l i).edge) (kv := kl) (zv := kI) zK1 zLR zK3 rfl rfl (fun w' hw' => Own.holds hw' 0 _ rfl) rfl (zC rfl (zr (vs := [.agg (CallD.cells ((zf ((zG l i).edge) kl).getD kI)).toArray, .bool ((zf ((zG l i).edge) kl).isSome)]) rfl rfl rfl (zr (vs := [.agg (CallD.cells ((zf ((zG l i).edge) kl).getD kI)).toArray, .bool ((zf ((zG l i).edge) kl).isSome)]) rfl rfl rfl (yG (v := .agg #[Vi 0, .bool false, .bool false, Vn 0, Vn 0, Vi 0, .string (⟨#[]⟩ : ByteArray), Vi 0, Vi 0, Vn 0, .string (⟨#[]⟩ : ByteArray), Vi 0, Vi 0, Vn 0, Vn 0, Vi 0, Vn 0, Vi 0, Vi 0, Vi 0, Vi 0]) (by kernel_rfl) rfl (fun b6 => zm 2 rfl rfl rfl (zw rfl) rfl (zH rfl (zA (zL (zB (yN (cs := (CallD.cells (zG l i))) 1 rfl rfl rfl (zQ rfl rfl (fun w' hw => (zGP (zG l i) w' (hcw _ (yR hil))).mono ?_))))))))))))
   rintro _ w1 ⟨rfl, hO⟩
   refine (?_ : CL _ _ _ _ _ _ (Own w [] [Res.mp yE zE6 m8 kl, Res.row b5 56 (CallD.cells (zG l i)), Res.row b6 56 (CallD.cells ((zf ((zG l i).edge) kl).getD kI))])) w1 (hw.frame0 hO)
   refine xn (q := (zG l i).single) rfl rfl (zC rfl (yk (q := ¬ ((zG l i).single)) 13 3 [38, 37, 36, 35, 34, 33, 32, 31, 30, 29, 28, 27, 26] ((((zf ((zG l i).edge) kl).isSome) = true) ∧ (((((zf ((zG l i).edge) kl).getD kI).fin) < 0) ∨ (((zG l i).beg) ≤ (((zf ((zG l i).edge) kl).getD kI).fin)))) rfl rfl rfl rfl rfl rfl trivial rfl (fun h6_3 => ?_) (fun g6_17 => ?_)))
   ·
    refine zR rfl (gF h6_3) (zC rfl (zR rfl (gF h6_3) (zC rfl (yD (q := ((zf ((zG l i).edge) kl).isSome) = true) 10 5 [37, 36, 35, 34, 33, 32, 31, 30, 29, 28] (((((zf ((zG l i).edge) kl).getD kI).fin) < 0) ∨ (((zG l i).beg) ≤ (((zf ((zG l i).edge) kl).getD kI).fin))) rfl rfl (y3 _) rfl rfl rfl ⟨_, rfl, rfl, gF h6_3⟩ rfl (fun h6_5 => ?_) (fun g6_16 => ?_)))))
    ·
     refine zR rfl (bT h6_5) (zO (o := 12) rfl rfl (zR rfl (bT h6_5) (zU 2 (v := Vi (((zf ((zG l i).edge) kl).getD kI).fin)) rfl rfl rfl rfl (zR rfl (bT h6_5) (z9 rfl rfl rfl (zR rfl (bT h6_5) (zC rfl (yk (q := (((zf ((zG l i).edge) kl).getD kI).fin) < 0) 5 9 [36, 35, 34, 33, 32] (((zG l i).beg) ≤ (((zf ((zG l i).edge) kl).getD kI).fin)) rfl rfl rfl rfl rfl rfl ⟨_, rfl, rfl, (bT h6_5)⟩ rfl (fun h6_9 => ?_) (fun g6_15 => ?_)))))))))
     ·
      refine zR rfl (gF h6_9) (zO (o := 11) rfl rfl (zR rfl (gF h6_9) (zU 1 (v := Vi ((zG l i).beg)) rfl rfl rfl rfl (zR rfl (gF h6_9) (zO (o := 12) rfl rfl (zR rfl (gF h6_9) (zU 2 (v := Vi (((zf ((zG l i).edge) kl).getD kI).fin)) rfl rfl rfl rfl (zR rfl (gF h6_9) (x5 rfl rfl rfl ?_)))))))))
      exact yH rfl (fun _ hw => hw)
     exact yH rfl (fun _ hw => hw)
    exact yH rfl (fun _ hw => hw)
   refine zA (zV rfl (fun c2 => ?_) (fun c2 => ?_))
   ·
    refine zB (zH rfl (zA ?_))
    exact zN (z4 (v := Vi 2) rfl rfl (fun w' hw => ⟨(by congr 1; exact (if_neg (zGA hil (fun q => c2.elim (fun k => k q.1) (fun k => by rw [hg] at k; exact late_iff.1 k q.2)))).symm), hw.drop⟩))
   ·
    refine zJ (zY (zC rfl (zO (o := 0) rfl rfl (zU 1 (v := Vi ((zG l i).edge)) rfl rfl rfl rfl (yN (cs := (CallD.cells (zG l i))) 1 rfl rfl rfl (zAu 0 (k := (zG l i).edge) (v := (zG l i)) zK1 zLR rfl rfl rfl rfl (zA (zY (zn rfl rfl (zh (by omega)) rfl (zC rfl ?_))))))))))
    exact zd (fun w' hw => ⟨i + 1, y6 (zG l i).edge (zG l i) kl, ⟨rfl, rfl, rfl, rfl, trivial⟩, ⟨hil, hL.next hil, hS.next (Decidable.not_not.1 fun q => c2 (.inl q)) (Decidable.not_not.1 fun q => c2 (.inr (by rw [hg]; exact late_iff.2 q)))⟩, hw.sel [0] rfl (by decide), (by omega)⟩)
  ·
   refine yB rfl (zB (zH rfl (zA ?_)))
   exact zN (z4 (v := Vi 0) rfl rfl (fun w' hw => ⟨(by congr 1; exact (if_pos (by have e : i = l.length := (by omega); rw [e] at hS; exact hS)).symm), hw.drop⟩))
def LT (idx : Nat) (now : Int) (cnt : Nat) (kb : List (ByteArray × Int)) (kl : List (Nat × LeaD)) (kr : List (Nat × RepD)) (t : RL) : Prop := LSt idx now cnt kb kl kr idx t.now t.cnt t.bs t.ls t.rs
section
variable {idx : Nat} {now : Int} {cnt : Nat} {kb : List (ByteArray × Int)} {kl : List (Nat × LeaD)} {kr : List (Nat × RepD)} {t : RL}
theorem LT.start (idx : Nat) : LT idx 0 0 [] [] [] ⟨0, 0, [], [], []⟩ := ⟨rfl, rfl, rfl, LOkR.start, LRel.start⟩
theorem LT.do (h : LT idx now cnt kb kl kr t) {c : CmdD} {r : RepD} {did : Bool} {cnt' : Nat} {kb' : List (ByteArray × Int)} {kl' : List (Nat × LeaD)} {kr' : List (Nat × RepD)} (hc : c.wf) (hn : t.cnt < 1000000000) (h1 : DoK now cnt kb kl kr c r did cnt' kb' kl' kr') :
    (r = (doF t c).1.1 ∧ did = (doF t c).1.2) ∧ LT idx now cnt' kb' kl' kr' (doF t c).2 ∧ (doF t c).2.cnt ≤ t.cnt + 1 ∧ r.wf := by
  obtain ⟨h2, h3⟩ := zD8 t c
  obtain ⟨q1, q2, q3, q4⟩ := LSt.do h hc hn h1 h2
  refine ⟨q1, ?_, q3, q4⟩
  unfold LT; rw [h3]; exact q2
theorem LT.pass (h : LT idx now cnt kb kl kr t) {d : Int} {now' : Int} {kl' : List (Nat × LeaD)} (hd : yx d) (e1 : now' = zBA now d) (e2 : kl' = jC now d kl) : LT idx now' cnt kb kl' kr (kS t d) := by
  obtain ⟨_, q1, q2, q3, q4⟩ := h
  subst q1 e1 e2
  exact ⟨rfl, rfl, q2, ⟨q3.q.pass d hd, q3.s, q3.c, q3.w, q3.n, fun l hl => q3.a l (by unfold kS zBw at hl; dsimp only at hl; split at hl; exact (List.mem_filter.1 hl).1; exact hl)⟩, ⟨q4.q.pass d, q4.c⟩⟩
theorem zCI (h : LT idx now cnt kb kl kr t) {c : CallD} {n : Int} (hc : c.look = true) (hn : n = yA c.key kl) : decide ((c.fin < 0) ∨ ((c.cap = ((zf c.key kb).getD 0)) ∧ (c.lent = n))) = (xY t c).1 ∧ (xY t c).2 = t := by
  unfold xY
  rw [if_pos hc, hn, h.r.q.lent, h.h.q.bud h.r.q]
  exact ⟨rfl, rfl⟩
theorem zDY {c : CallD} {r : RepD} (hc : ¬ c.look = true) (hr : r = (doF t c.cmd).1.1) : decide ((c.fin < 0) ∨ (r = c.reply)) = (xY t c).1 ∧ (xY t c).2 = (doF t c.cmd).2 := by
  unfold xY
  rw [if_neg hc, hr]
  exact ⟨rfl, rfl⟩
end
theorem zIP {S : List Nat} (b tb cb bm lm idx : Nat) (now : Int) (cnt : Nat) (kb : List (ByteArray × Int)) (kl : List (Nat × LeaD)) (k : ByteArray) (w : World) (hin : Own w S [Res.row b 115 [.pointer (some ⟨tb, 0, none⟩), .pointer (some ⟨cb, 0, none⟩), Vn idx], Res.row tb 126 [.map (some bm), .map (some lm), Vi now, Vn cnt], Res.mp Value.string yE bm kb, Res.mp yC zk lm kl] w) : Rets Tryz.prog 53 #[.pointer (some ⟨b, 0, none⟩), .string k] w fun u_ w' => ∃ (n : Int), u_ = .tuple #[Vi ((zf k kb).getD 0), Vi n] ∧ n = yA k kl ∧ Own w S [Res.row b 115 [.pointer (some ⟨tb, 0, none⟩), .pointer (some ⟨cb, 0, none⟩), Vn idx], Res.row tb 126 [.map (some bm), .map (some lm), Vi now, Vn cnt], Res.mp Value.string yE bm kb, Res.mp yC zk lm kl] w' := by
  refine ze Tryz.func53 rfl Tryz.ntmps53 hin ?_
  refine zB (zH rfl (zH rfl (zA (zL (zB (zC rfl (xk (by kernel_rfl) rfl rfl rfl (zA (xt rfl (zJ (zB (zC rfl ?_))))))))))))
  refine zt rfl rfl (zO (o := 0) rfl rfl (zU 0 (v := .pointer (some ⟨tb, 0, none⟩)) rfl rfl rfl rfl (zC rfl (zQ rfl rfl (fun w' hw => (zH9 tb bm lm now cnt kb kl k w' (hw.give [1, 2, 3] rfl (by decide))).mono ?_)))))
  rintro _ w1 ⟨n1_, rfl, hf3_5, hO⟩
  refine (?_ : CL _ _ _ _ _ _ (Own w S [Res.row b 115 [.pointer (some ⟨tb, 0, none⟩), .pointer (some ⟨cb, 0, none⟩), Vn idx], Res.row tb 126 [.map (some bm), .map (some lm), Vi now, Vn cnt], Res.mp Value.string yE bm kb, Res.mp yC zk lm kl])) w1 (hw.frameL [1, 2, 3] rfl hO)
  refine zr (vs := [Vi ((zf k kb).getD 0), Vi n1_]) rfl rfl rfl (zr (vs := [Vi ((zf k kb).getD 0), Vi n1_]) rfl rfl rfl (zH rfl (zH rfl (zA ?_))))
  exact zN (yo (v := Vi ((zf k kb).getD 0)) (v' := Vi n1_) rfl rfl rfl (fun w' hw => ⟨n1_, rfl, hf3_5, hw⟩))
theorem zIT {S : List Nat} (o b : Nat) (v dv : Value) (l : List CallD) (dn : List Bool) (k : Int) (w : World) (hl : l.length ≤ 10000000) (hd : dn.length = l.length) (hk0 : 0 ≤ k) (hk : k.toNat < l.length) (hin : Own w S [Res.row o 92 [.pointer (some ⟨b, 0, none⟩), v, dv], Res.vec 4 1 dv dn.length (dn.flatMap B1)] w) (hv : Rd w S (Res.sl v l.length (l.flatMap CallD.cells))) : Rets Tryz.prog 43 #[.pointer (some ⟨o, 0, none⟩), Vi k] w fun u_ w' => u_ = .bool (decide (jI l dn (zG l k.toNat))) ∧ Own w S [Res.row o 92 [.pointer (some ⟨b, 0, none⟩), v, dv], Res.vec 4 1 dv dn.length (dn.flatMap B1)] w' := by
  refine ze Tryz.func43 rfl Tryz.ntmps43 hin ?_
  refine zB (zH rfl (zA (zL (zB (zC rfl (zt rfl rfl (zO (o := 1) rfl rfl (zU 0 (v := v) rfl rfl rfl rfl (yY (pR hv) rfl rfl (zC rfl (zA (zW ?_))))))))))))
  refine xC (fun (i : Nat) => [(0, .pointer (some ⟨o, 0, none⟩)), (1, Vi k), (10, v), (11, Vj l.length), (12, Vj i)]) (fun (i : Nat) => i ≤ l.length ∧ ¬ zC2 l dn (zG l k.toNat) i) (fun (i : Nat) => [Res.row o 92 [.pointer (some ⟨b, 0, none⟩), v, dv], Res.vec 4 1 dv dn.length (dn.flatMap B1)]) (fun (i : Nat) => l.length - i) (fun w' hw => ⟨0, ⟨rfl, rfl, rfl, rfl, rfl, trivial⟩, ⟨Nat.zero_le _, fun ⟨j, hj, _⟩ => absurd hj (Nat.not_lt_zero j)⟩, hw⟩) (fun i g hΦ => ?_)
  have hi := hΦ.1
  have hE := hΦ.2
  refine zB (z9 rfl rfl rfl (zA (zL (zV rfl (fun c1 => ?_) (fun c1 => ?_)))))
  ·
   refine zJ (zL (zW (zB (zC rfl (zF (pR hv) 21 i rfl rfl rfl (by omega) rfl (x2 (pR hv) 21 i (off := yK v + i * 21) (fun _ => rfl) rfl rfl (by omega) rfl (yG (v := .agg #[Vi 0, .bool false, .bool false, Vn 0, Vn 0, Vi 0, .string (⟨#[]⟩ : ByteArray), Vi 0, Vi 0, Vn 0, .string (⟨#[]⟩ : ByteArray), Vi 0, Vi 0, Vn 0, Vn 0, Vi 0, Vn 0, Vi 0, Vi 0, Vi 0, Vi 0]) (by kernel_rfl) rfl (fun b6 => zH rfl (zm 2 rfl rfl rfl (zw rfl) rfl (zA (xN (by kernel_rfl) (by kernel_rfl) (zb rfl (zK) ?_))))))))))))
   refine zb rfl (zq rfl) (zb rfl (zc (o := 2) rfl) (zb rfl (zl 0 (v := dv) rfl rfl rfl) (zb rfl (zK) (zb rfl (z7 (pV 1 rfl) 1 i rfl rfl rfl (by omega)) (zb rfl (yT (pV 1 rfl) 1 i 0 (fun _ => rfl) rfl rfl (by omega) rfl) (zb rfl (zGI (b := (zG dn i)) rfl) (zb rfl (zK) (zES (q := (!(zG dn i)) = true) 3 8 [28, 27, 26] (0 ≤ ((zG l i).fin)) rfl rfl (y3 _) rfl rfl rfl trivial rfl (fun h4_8 => ?_) (fun g4_12 => ?_)))))))))
   ·
    refine y7 rfl (bT h4_8) (zb rfl (zc (o := 12) rfl) (y7 rfl (bT h4_8) (zb rfl (zl 2 (v := Vi ((zG l i).fin)) rfl rfl rfl) (y7 rfl (bT h4_8) (zb rfl (zHc rfl rfl) ?_)))))
    exact zFW rfl
   refine zb rfl (zK) (zES (q := ((!(zG dn i)) = true) ∧ (0 ≤ ((zG l i).fin))) 11 13 [41, 40, 39, 38, 37, 36, 35, 34, 33, 32, 31] (((zG l i).fin) < ((zG l ((k).toNat)).beg)) rfl rfl rfl rfl rfl rfl trivial rfl (fun h4_13 => ?_) (fun g4_25 => ?_))
   ·
    refine y7 rfl (gT h4_13) (zb rfl (zc (o := 12) rfl) (y7 rfl (gT h4_13) (zb rfl (zl 2 (v := Vi ((zG l i).fin)) rfl rfl rfl) (y7 rfl (gT h4_13) (zb rfl (zK) (y7 rfl (gT h4_13) (zb rfl (zq rfl) (y7 rfl (gT h4_13) (zb rfl (zc (o := 1) rfl) (y7 rfl (gT h4_13) (zb rfl (zl 0 (v := v) rfl rfl rfl) (y7 rfl (gT h4_13) ?_))))))))))))
    refine zb rfl (zK) (y7 rfl (gT h4_13) (zb rfl (z7 (pR hv) 21 ((k).toNat) rfl rfl (by omega) (by omega)) (y7 rfl (gT h4_13) (zb rfl (zc (o := 11) rfl) (y7 rfl (gT h4_13) (zb rfl (yT (pR hv) 21 ((k).toNat) 11 (off := yK v + ((k).toNat) * 21 + 11) (fun _ => rfl) rfl (by omega) (by omega) rfl) (y7 rfl (gT h4_13) (zb rfl (zCR rfl rfl) ?_))))))))
    exact zFW rfl
   refine js (zV rfl (fun c2 => ?_) (fun c2 => ?_))
   ·
    refine zB (zH rfl (zA ?_))
    exact zN (z4 (v := .bool true) rfl rfl (fun w' hw => ⟨(by congr 1; exact (decide_eq_true (⟨i, by omega, notFi.1 c2.1.1, c2.1.2, c2.2⟩ : jI l dn (zG l k.toNat))).symm), hw.sel [0, 1] rfl (by decide)⟩))
   ·
    refine zJ (zY (zn rfl rfl (zh (by omega)) rfl (zC rfl ?_)))
    exact zd (fun w' hw => ⟨i + 1, ⟨rfl, rfl, rfl, rfl, rfl, trivial⟩, ⟨by omega, zEa hE (fun q => c2 ⟨⟨notFi.2 q.1.1, q.1.2⟩, q.2⟩)⟩, hw.sel [0, 1] rfl (by decide), (by omega)⟩)
  ·
   refine yB rfl (zB (zH rfl (zA ?_)))
   exact zN (z4 (v := .bool false) rfl rfl (fun w' hw => ⟨(by congr 1; exact (decide_eq_false (fun q : jI l dn (zG l k.toNat) => hE (by have e : i = l.length := (by omega); rw [e]; exact q))).symm), hw⟩))
theorem zH8 {S : List Nat} (o b : Nat) (v dv : Value) (l : List CallD) (dn : List Bool) (w : World) (hl : l.length ≤ 10000000) (hd : dn.length = l.length) (hin : Own w S [Res.row o 92 [.pointer (some ⟨b, 0, none⟩), v, dv], Res.vec 4 1 dv dn.length (dn.flatMap B1)] w) (hv : Rd w S (Res.sl v l.length (l.flatMap CallD.cells))) : Rets Tryz.prog 31 #[.pointer (some ⟨o, 0, none⟩)] w fun u_ w' => u_ = .bool (decide (Whole l dn)) ∧ Own w S [Res.row o 92 [.pointer (some ⟨b, 0, none⟩), v, dv], Res.vec 4 1 dv dn.length (dn.flatMap B1)] w' := by
  refine ze Tryz.func31 rfl Tryz.ntmps31 hin ?_
  refine zB (zH rfl (zA (zL (zB (zC rfl (zt rfl rfl (zO (o := 1) rfl rfl (zU 0 (v := v) rfl rfl rfl rfl (yY (pR hv) rfl rfl (zC rfl (zA (zW ?_))))))))))))
  refine xC (fun (i : Nat) => [(0, .pointer (some ⟨o, 0, none⟩)), (8, v), (9, Vj l.length), (10, Vj i)]) (fun (i : Nat) => i ≤ l.length ∧ zCm l dn i) (fun (i : Nat) => [Res.row o 92 [.pointer (some ⟨b, 0, none⟩), v, dv], Res.vec 4 1 dv dn.length (dn.flatMap B1)]) (fun (i : Nat) => l.length - i) (fun w' hw => ⟨0, ⟨rfl, rfl, rfl, rfl, trivial⟩, ⟨Nat.zero_le _, fun j hj => absurd hj (Nat.not_lt_zero j)⟩, hw⟩) (fun i g hΦ => ?_)
  have hi := hΦ.1
  have hE := hΦ.2
  refine zB (z9 rfl rfl rfl (zA (zL (zV rfl (fun c1 => ?_) (fun c1 => ?_)))))
  ·
   refine zJ (zL (zW (zB (zC rfl (zF (pR hv) 21 i rfl rfl rfl (by omega) rfl (x2 (pR hv) 21 i (off := yK v + i * 21) (fun _ => rfl) rfl rfl (by omega) rfl (yG (v := .agg #[Vi 0, .bool false, .bool false, Vn 0, Vn 0, Vi 0, .string (⟨#[]⟩ : ByteArray), Vi 0, Vi 0, Vn 0, .string (⟨#[]⟩ : ByteArray), Vi 0, Vi 0, Vn 0, Vn 0, Vi 0, Vn 0, Vi 0, Vi 0, Vi 0, Vi 0]) (by kernel_rfl) rfl (fun b4 => zH rfl (zm 2 rfl rfl rfl (zw rfl) rfl (zA (zB (zO (o := 12) rfl rfl ?_))))))))))))
   refine zU 2 (v := Vi ((zG l i).fin)) rfl rfl rfl rfl (yU rfl rfl rfl (zC rfl (yD (q := 0 ≤ ((zG l i).fin)) 8 3 [26, 25, 24, 23, 22, 21, 20, 19] ((!(zG dn i)) = true) rfl rfl rfl rfl rfl rfl trivial rfl (fun h4_3 => ?_) (fun g4_12 => ?_))))
   ·
    refine zR rfl (gT h4_3) (zC rfl (zR rfl (gT h4_3) (zt rfl rfl (zR rfl (gT h4_3) (zO (o := 2) rfl rfl (zR rfl (gT h4_3) (zU 0 (v := dv) rfl rfl rfl rfl (zR rfl (gT h4_3) (zC rfl (zR rfl (gT h4_3) (zF (pV 1 rfl) 1 i rfl rfl rfl (by omega) rfl (zR rfl (gT h4_3) ?_))))))))))))
    refine zP (pV 1 rfl) 1 i 0 (fun _ => rfl) rfl rfl (by omega) rfl rfl (zR rfl (gT h4_3) (kz (b := (zG dn i)) rfl rfl ?_))
    exact yH (y3 _) (fun _ hw => hw)
   refine zA (zV rfl (fun c2 => ?_) (fun c2 => ?_))
   ·
    refine zB (zH rfl (zA ?_))
    exact zN (z4 (v := .bool false) rfl rfl (fun w' hw => ⟨(by congr 1; exact (decide_eq_false (fun q : Whole l dn => by have := q i (by omega) c2.1; have := notFi.1 c2.2; simp_all)).symm), hw.sel [0, 1] rfl (by decide)⟩))
   ·
    refine zJ (zY (zn rfl rfl (zh (by omega)) rfl (zC rfl ?_)))
    exact zd (fun w' hw => ⟨i + 1, ⟨rfl, rfl, rfl, rfl, trivial⟩, ⟨by omega, zEd hE (fun q => c2 ⟨q.1, notFi.2 q.2⟩)⟩, hw.sel [0, 1] rfl (by decide), (by omega)⟩)
  ·
   refine yB rfl (zB (zH rfl (zA ?_)))
   exact zN (z4 (v := .bool true) rfl rfl (fun w' hw => ⟨(by congr 1; exact (decide_eq_true (show Whole l dn by have e : i = l.length := (by omega); rw [e] at hE; exact hE)).symm), hw⟩))
theorem zI9 {S : List Nat} (o : Nat) (v dv : Value) (l : List CallD) (dn : List Bool) (b tb cb bm lm rm idx : Nat) (now : Int) (cnt : Nat) (kb : List (ByteArray × Int)) (kl : List (Nat × LeaD)) (kr : List (Nat × RepD)) (t : RL) (c : CallD) (w : World) (hT : LT idx now cnt kb kl kr t) (hcw : c.wf) (hn : t.cnt < 1000000000) (hin : Own w S [Res.row o 92 [.pointer (some ⟨b, 0, none⟩), v, dv], Res.vec 4 1 dv dn.length (dn.flatMap B1), Res.row b 115 [.pointer (some ⟨tb, 0, none⟩), .pointer (some ⟨cb, 0, none⟩), Vn idx], Res.row tb 126 [.map (some bm), .map (some lm), Vi now, Vn cnt], Res.mp Value.string yE bm kb, Res.mp yC zk lm kl, Res.row cb 130 [.map (some rm)], Res.mp ym zx rm kr] w) (hv : Rd w S (Res.sl v l.length (l.flatMap CallD.cells))) : Rets Tryz.prog 45 #[.pointer (some ⟨o, 0, none⟩), .agg (CallD.cells c).toArray] w fun u_ w' => ∃ (now' : Int) (cnt' : Nat) (kb' : List (ByteArray × Int)) (kl' : List (Nat × LeaD)) (kr' : List (Nat × RepD)), u_ = .bool ((xY t c).1) ∧ LT idx now' cnt' kb' kl' kr' (xY t c).2 ∧ Own w S [Res.row o 92 [.pointer (some ⟨b, 0, none⟩), v, dv], Res.vec 4 1 dv dn.length (dn.flatMap B1), Res.row b 115 [.pointer (some ⟨tb, 0, none⟩), .pointer (some ⟨cb, 0, none⟩), Vn idx], Res.row tb 126 [.map (some bm), .map (some lm), Vi now', Vn cnt'], Res.mp Value.string yE bm kb', Res.mp yC zk lm kl', Res.row cb 130 [.map (some rm)], Res.mp ym zx rm kr'] w' := by
  refine ze Tryz.func45 rfl Tryz.ntmps45 hin ?_
  refine zB (yj rfl rfl (fun b3 => zH rfl (zA (zL (zB (zO (o := 1) rfl rfl (zU 8 (v := .bool c.look) rfl rfl rfl rfl (zA (jm rfl (fun c1 => ?_) (fun c1 => ?_))))))))))
  ·
   refine zL (zZ [0, 1, 6, 7, 8] rfl (by decide) (by kernel_rfl) (fun w' hw hS => zD 0 rfl (zK) hS (zD 1 rfl (zq rfl) hS (zD 2 rfl (zc (o := 0) rfl) hS (zD 3 rfl (zl 0 (v := .pointer (some ⟨b, 0, none⟩)) rfl rfl rfl) hS (zD 4 rfl (zc (o := 10) rfl) hS (zD 5 rfl (zl 4 (v := .string c.key) rfl rfl rfl) hS (zX 6 rfl hw (zQ rfl rfl (fun w' hw => (zIP b tb cb bm lm idx now cnt kb kl c.key w' (hw.give [2, 3, 4, 5] rfl (by decide))).mono ?_))))))))))
   rintro _ w1 ⟨n1_, rfl, hf2_6, hO⟩
   refine (?_ : CL _ _ _ _ _ _ (Own w S [Res.row o 92 [.pointer (some ⟨b, 0, none⟩), v, dv], Res.vec 4 1 dv dn.length (dn.flatMap B1), Res.row cb 130 [.map (some rm)], Res.mp ym zx rm kr, Res.row b3 56 (CallD.cells c), Res.row b 115 [.pointer (some ⟨tb, 0, none⟩), .pointer (some ⟨cb, 0, none⟩), Vn idx], Res.row tb 126 [.map (some bm), .map (some lm), Vi now, Vn cnt], Res.mp Value.string yE bm kb, Res.mp yC zk lm kl])) w1 (hw.frameL [2, 3, 4, 5] rfl hO)
   refine zE [0, 1, 2, 3, 4] rfl (by decide) (fun w' hw hS => zD 7 rfl (zK) hS (zD 8 rfl (yS (vs := [Vi ((zf c.key kb).getD 0), Vi n1_]) rfl rfl) hS (zD 9 rfl (yS (vs := [Vi ((zf c.key kb).getD 0), Vi n1_]) rfl rfl) hS (zD 10 rfl (y8) hS (zD 11 rfl (y8) hS (zM ?_))))))
   refine (?_ : C _ _ _ _ _ _ _ (Own w S [Res.row o 92 [.pointer (some ⟨b, 0, none⟩), v, dv], Res.vec 4 1 dv dn.length (dn.flatMap B1), Res.row cb 130 [.map (some rm)], Res.mp ym zx rm kr, Res.row b3 56 (CallD.cells c), Res.row b 115 [.pointer (some ⟨tb, 0, none⟩), .pointer (some ⟨cb, 0, none⟩), Vn idx], Res.row tb 126 [.map (some bm), .map (some lm), Vi now, Vn cnt], Res.mp Value.string yE bm kb, Res.mp yC zk lm kl])) _ hw
   refine zB (zO (o := 12) rfl rfl (zU 4 (v := Vi c.fin) rfl rfl rfl rfl (z9 rfl rfl rfl (zC rfl (yk (q := c.fin < 0) 10 3 [34, 33, 32, 31, 30, 29, 28, 27, 26, 25] ((c.cap = ((zf c.key kb).getD 0)) ∧ (c.lent = n1_)) rfl rfl rfl rfl rfl rfl trivial rfl (fun h3_3 => ?_) (fun g3_14 => ?_))))))
   ·
    refine zR rfl (gF h3_3) (zO (o := 19) rfl rfl (zR rfl (gF h3_3) (zU 4 (v := Vi c.cap) rfl rfl rfl rfl (zR rfl (gF h3_3) (zC rfl (zR rfl (gF h3_3) (yV rfl rfl rfl (zR rfl (gF h3_3) (zC rfl (yD (q := c.cap = ((zf c.key kb).getD 0)) 4 8 [33, 32, 31, 30] (c.lent = n1_) rfl rfl rfl rfl rfl rfl ⟨_, rfl, rfl, gF h3_3⟩ rfl (fun h3_8 => ?_) (fun g3_13 => ?_)))))))))))
    ·
     refine zR rfl (gT h3_8) (zO (o := 20) rfl rfl (zR rfl (gT h3_8) (zU 4 (v := Vi c.lent) rfl rfl rfl rfl (zR rfl (gT h3_8) (zC rfl (zR rfl (gT h3_8) (yV rfl rfl rfl ?_)))))))
     exact yH rfl (fun _ hw => hw)
    exact yH rfl (fun _ hw => hw)
   refine zH rfl (zA ?_)
   exact zN (z4 (v := .bool (decide ((c.fin < 0) ∨ ((c.cap = ((zf c.key kb).getD 0)) ∧ (c.lent = n1_))))) rfl rfl (fun w' hw => ⟨now, cnt, kb, kl, kr, (by congr 1; exact (zCI hT c1 hf2_6).1), by rw [(zCI hT c1 hf2_6).2]; exact hT, hw.sel [0, 1, 5, 6, 7, 8, 2, 3] rfl (by decide)⟩))
  ·
   refine zJ (zL (zZ [0, 1, 8] rfl (by decide) (by kernel_rfl) (fun w' hw hS => zD 0 rfl (zK) hS (zD 1 rfl (zq rfl) hS (zD 2 rfl (zc (o := 0) rfl) hS (zD 3 rfl (zl 0 (v := .pointer (some ⟨b, 0, none⟩)) rfl rfl rfl) hS (zD 4 rfl (zc (o := 3) rfl) hS (zD 5 rfl (zGk 2 (CmdD.cells c.cmd) rfl rfl (kV 3 rfl) (by kernel_rfl)) hS (za 6 10 ?_ ?_)))))))))
   ·
    refine zT 6 rfl hw (zQ rfl rfl (fun w' hw => (zJV b tb cb bm lm rm idx now cnt kb kl kr c.cmd w' hcw.cmd (LSt.ht hT) (by rw [LSt.c hT]; omega) (LSt.lent1 hT _) (LSt.kl0 hT (by omega)) (hw.give [2, 3, 4, 5, 6, 7] rfl (by decide))).mono ?_))
    rintro _ w1 ⟨r2_, did3_, cnt'4_, kb'5_, kl'6_, kr'7_, rfl, hf4_6, hO⟩
    have hdo := hT.do hcw.cmd hn hf4_6
    have htc := zDY (c := c) (by rw [c1]; decide) hdo.1.1
    refine (?_ : CL _ _ _ _ _ _ (Own w S [Res.row o 92 [.pointer (some ⟨b, 0, none⟩), v, dv], Res.vec 4 1 dv dn.length (dn.flatMap B1), Res.row b3 56 (CallD.cells c), Res.row b 115 [.pointer (some ⟨tb, 0, none⟩), .pointer (some ⟨cb, 0, none⟩), Vn idx], Res.row tb 126 [.map (some bm), .map (some lm), Vi now, Vn cnt'4_], Res.mp Value.string yE bm kb'5_, Res.mp yC zk lm kl'6_, Res.row cb 130 [.map (some rm)], Res.mp ym zx rm kr'7_])) w1 (hw.frameL [2, 3, 4, 5, 6, 7] rfl hO)
    refine zE [0, 1, 2] rfl (by decide) (fun w' hw hS => zD 7 rfl (zK) hS (zD 8 rfl (yS (vs := [.agg (RepD.cells r2_).toArray, .bool did3_]) rfl rfl) hS (zD 9 rfl (yS (vs := [.agg (RepD.cells r2_).toArray, .bool did3_]) rfl rfl) hS (zX 10 rfl hw (yG (v := .agg #[Vn 0, Vn 0, Vi 0, Vn 0, Vi 0, Vi 0]) (by kernel_rfl) rfl (fun b7 => zE [0, 1, 2] rfl (by decide) (fun w' hw hS => zX 11 rfl hw (zm 9 rfl rfl rfl (zw rfl) rfl (zE [0, 1, 2] rfl (by decide) (fun w' hw hS => zD 12 rfl (y8) hS (zM ?_)))))))))))
    refine (?_ : C _ _ _ _ _ _ _ (Own w S [Res.row o 92 [.pointer (some ⟨b, 0, none⟩), v, dv], Res.vec 4 1 dv dn.length (dn.flatMap B1), Res.row b3 56 (CallD.cells c), Res.row b 115 [.pointer (some ⟨tb, 0, none⟩), .pointer (some ⟨cb, 0, none⟩), Vn idx], Res.row tb 126 [.map (some bm), .map (some lm), Vi now, Vn cnt'4_], Res.mp Value.string yE bm kb'5_, Res.mp yC zk lm kl'6_, Res.row cb 130 [.map (some rm)], Res.mp ym zx rm kr'7_, Res.row b7 50 (RepD.cells r2_)])) _ hw
    refine zB (zO (o := 12) rfl rfl (zU 2 (v := Vi c.fin) rfl rfl rfl rfl (z9 rfl rfl rfl (zC rfl (yk (q := c.fin < 0) 4 3 [53, 52, 51, 50] (r2_ = c.reply) rfl rfl rfl rfl rfl rfl trivial rfl (fun h5_3 => ?_) (fun g5_8 => ?_))))))
    ·
     refine zR rfl (gF h5_3) (yN (cs := (RepD.cells r2_)) 9 rfl rfl rfl (zR rfl (gF h5_3) (zO (o := 13) rfl rfl (zR rfl (gF h5_3) (zAw 2 (RepD.cells c.reply) rfl rfl (kV 13 rfl) (by kernel_rfl) rfl (zR rfl (gF h5_3) (z5 rfl (zGl (zHb r2_ c.reply) (by kernel_rfl) (by kernel_rfl) rfl rfl rfl rfl) ?_)))))))
     exact yH rfl (fun _ hw => hw)
    refine zH rfl (zA ?_)
    exact zN (z4 (v := .bool (decide ((c.fin < 0) ∨ (r2_ = c.reply)))) rfl rfl (fun w' hw => ⟨now, cnt'4_, kb'5_, kl'6_, kr'7_, (by congr 1; exact htc.1), by rw [htc.2]; exact hdo.2.1, hw.sel [0, 1, 3, 4, 5, 6, 7, 8] rfl (by decide)⟩))
   ·
    refine zT 10 rfl hw (yG (v := .agg #[Vn 0, Vn 0, Vi 0, Vn 0, Vi 0, Vi 0]) (by kernel_rfl) rfl (fun b7 => zE [0, 1, 8] rfl (by decide) (fun w' hw hS => zX 6 rfl hw (zQ rfl rfl (fun w' hw => (zJV b tb cb bm lm rm idx now cnt kb kl kr c.cmd w' hcw.cmd (LSt.ht hT) (by rw [LSt.c hT]; omega) (LSt.lent1 hT _) (LSt.kl0 hT (by omega)) (hw.give [2, 3, 4, 5, 6, 7] rfl (by decide))).mono ?_)))))
    rintro _ w1 ⟨r8_, did9_, cnt'10_, kb'11_, kl'12_, kr'13_, rfl, hf4_6, hO⟩
    have hdo := hT.do hcw.cmd hn hf4_6
    have htc := zDY (c := c) (by rw [c1]; decide) hdo.1.1
    refine (?_ : CL _ _ _ _ _ _ (Own w S [Res.row o 92 [.pointer (some ⟨b, 0, none⟩), v, dv], Res.vec 4 1 dv dn.length (dn.flatMap B1), Res.row b3 56 (CallD.cells c), Res.row b7 50 [Vn 0, Vn 0, Vi 0, Vn 0, Vi 0, Vi 0], Res.row b 115 [.pointer (some ⟨tb, 0, none⟩), .pointer (some ⟨cb, 0, none⟩), Vn idx], Res.row tb 126 [.map (some bm), .map (some lm), Vi now, Vn cnt'10_], Res.mp Value.string yE bm kb'11_, Res.mp yC zk lm kl'12_, Res.row cb 130 [.map (some rm)], Res.mp ym zx rm kr'13_])) w1 (hw.frameL [2, 3, 4, 5, 6, 7] rfl hO)
    refine zE [0, 1, 2] rfl (by decide) (fun w' hw hS => zD 7 rfl (zK) hS (zD 8 rfl (yS (vs := [.agg (RepD.cells r8_).toArray, .bool did9_]) rfl rfl) hS (zD 9 rfl (yS (vs := [.agg (RepD.cells r8_).toArray, .bool did9_]) rfl rfl) hS (zX 11 rfl hw (zm 3 rfl rfl rfl (zw rfl) rfl (zE [0, 1, 2] rfl (by decide) (fun w' hw hS => zD 12 rfl (y8) hS (zM ?_))))))))
    refine (?_ : C _ _ _ _ _ _ _ (Own w S [Res.row o 92 [.pointer (some ⟨b, 0, none⟩), v, dv], Res.vec 4 1 dv dn.length (dn.flatMap B1), Res.row b3 56 (CallD.cells c), Res.row b7 50 (RepD.cells r8_), Res.row b 115 [.pointer (some ⟨tb, 0, none⟩), .pointer (some ⟨cb, 0, none⟩), Vn idx], Res.row tb 126 [.map (some bm), .map (some lm), Vi now, Vn cnt'10_], Res.mp Value.string yE bm kb'11_, Res.mp yC zk lm kl'12_, Res.row cb 130 [.map (some rm)], Res.mp ym zx rm kr'13_])) _ hw
    refine zB (zO (o := 12) rfl rfl (zU 2 (v := Vi c.fin) rfl rfl rfl rfl (z9 rfl rfl rfl (zC rfl (yk (q := c.fin < 0) 4 3 [53, 52, 51, 50] (r8_ = c.reply) rfl rfl rfl rfl rfl rfl trivial rfl (fun h5_3 => ?_) (fun g5_8 => ?_))))))
    ·
     refine zR rfl (gF h5_3) (yN (cs := (RepD.cells r8_)) 3 rfl rfl rfl (zR rfl (gF h5_3) (zO (o := 13) rfl rfl (zR rfl (gF h5_3) (zAw 2 (RepD.cells c.reply) rfl rfl (kV 13 rfl) (by kernel_rfl) rfl (zR rfl (gF h5_3) (z5 rfl (zGl (zHb r8_ c.reply) (by kernel_rfl) (by kernel_rfl) rfl rfl rfl rfl) ?_)))))))
     exact yH rfl (fun _ hw => hw)
    refine zH rfl (zA ?_)
    exact zN (z4 (v := .bool (decide ((c.fin < 0) ∨ (r8_ = c.reply)))) rfl rfl (fun w' hw => ⟨now, cnt'10_, kb'11_, kl'12_, kr'13_, (by congr 1; exact htc.1), by rw [htc.2]; exact hdo.2.1, hw.sel [0, 1, 4, 5, 6, 7, 8, 9] rfl (by decide)⟩))
theorem zJh {S : List Nat} (o : Nat) (v dv : Value) (l : List CallD) (dn : List Bool) (b tb cb bm lm rm idx : Nat) (now : Int) (cnt : Nat) (kb : List (ByteArray × Int)) (kl : List (Nat × LeaD)) (kr : List (Nat × RepD)) (t : RL) (m : MovD) (w : World) (hT : LT idx now cnt kb kl kr t) (hcw : ∀ c ∈ l, c.wf) (hn : t.cnt < 1000000000) (hl : l.length ≤ 10000000) (hd : dn.length = l.length) (hmd : yx m.delta) (hin : Own w S [Res.row o 92 [.pointer (some ⟨b, 0, none⟩), v, dv], Res.vec 4 1 dv dn.length (dn.flatMap B1), Res.row b 115 [.pointer (some ⟨tb, 0, none⟩), .pointer (some ⟨cb, 0, none⟩), Vn idx], Res.row tb 126 [.map (some bm), .map (some lm), Vi now, Vn cnt], Res.mp Value.string yE bm kb, Res.mp yC zk lm kl, Res.row cb 130 [.map (some rm)], Res.mp ym zx rm kr] w) (hv : Rd w S (Res.sl v l.length (l.flatMap CallD.cells))) : Rets Tryz.prog 30 #[.pointer (some ⟨o, 0, none⟩), .agg (MovD.cells m).toArray] w fun u_ w' => ∃ (dn' : List Bool) (now' : Int) (cnt' : Nat) (kb' : List (ByteArray × Int)) (kl' : List (Nat × LeaD)) (kr' : List (Nat × RepD)), u_ = Vi ((zz l ⟨t, dn⟩ m).1) ∧ ((zz l ⟨t, dn⟩ m).1 = 0 → dn' = (zz l ⟨t, dn⟩ m).2.done ∧ LT idx now' cnt' kb' kl' kr' (zz l ⟨t, dn⟩ m).2.t) ∧ Own w S [Res.row o 92 [.pointer (some ⟨b, 0, none⟩), v, dv], Res.vec 4 1 dv dn'.length (dn'.flatMap B1), Res.row b 115 [.pointer (some ⟨tb, 0, none⟩), .pointer (some ⟨cb, 0, none⟩), Vn idx], Res.row tb 126 [.map (some bm), .map (some lm), Vi now', Vn cnt'], Res.mp Value.string yE bm kb', Res.mp yC zk lm kl', Res.row cb 130 [.map (some rm)], Res.mp ym zx rm kr'] w' := by
  have htm := LSt.ht hT
  refine ze Tryz.func30 rfl Tryz.ntmps30 hin ?_
  refine zB (yj rfl rfl (fun b3 => zH rfl (zA (zL (xN (by kernel_rfl) (by kernel_rfl) (zb rfl (zc (o := 0) rfl) (zb rfl (zl 8 (v := Vi m.call) rfl rfl rfl) (zb rfl (zK) (zb rfl (zq rfl) (zb rfl (zc (o := 1) rfl) (zb rfl (zl 0 (v := v) rfl rfl rfl) (zb rfl (zGR (pR hv) rfl) ?_))))))))))))
  refine zb rfl (zHc rfl rfl) (zb rfl (zK) (zHN (q := ((l.length : Nat) : Int) ≤ m.call) 3 8 [18, 17, 16] (m.delta < 0) rfl rfl rfl rfl rfl rfl trivial rfl (fun h1_8 => ?_) (fun g1_12 => ?_)))
  ·
   refine y7 rfl (gF h1_8) (zb rfl (zc (o := 1) rfl) (y7 rfl (gF h1_8) (zb rfl (zl 8 (v := Vi m.delta) rfl rfl rfl) (y7 rfl (gF h1_8) (zb rfl (zCR rfl rfl) ?_)))))
   exact zFW rfl
  refine zb rfl (zK) (zHN (q := (((l.length : Nat) : Int) ≤ m.call) ∨ (m.delta < 0)) 3 13 [23, 22, 21] (1099511627776 < m.delta) rfl rfl rfl rfl rfl rfl trivial rfl (fun h1_13 => ?_) (fun g1_17 => ?_))
  ·
   refine y7 rfl (gF h1_13) (zb rfl (zc (o := 1) rfl) (y7 rfl (gF h1_13) (zb rfl (zl 8 (v := Vi m.delta) rfl rfl rfl) (y7 rfl (gF h1_13) (zb rfl (zDV rfl rfl) ?_)))))
   exact zFW rfl
  refine js (zV rfl (fun c1 => ?_) (fun c1 => ?_))
  ·
   refine zB (zH rfl (zA ?_))
   exact zN (z4 (v := Vi 1) rfl rfl (fun w' hw => ⟨dn, now, cnt, kb, kl, kr, (zDf (mv1 c1)), zFY (mv1 c1) (by decide), hw.sel [0, 1, 2, 3, 4, 5, 6, 7] rfl (by decide)⟩))
  ·
   refine zJ (zL (zB (zO (o := 0) rfl rfl (zU 8 (v := Vi m.call) rfl rfl rfl rfl (yU rfl rfl rfl (zA (zV rfl (fun c2 => ?_) (fun c2 => ?_))))))))
   ·
    have hcl : m.call.toNat < l.length := by omega
    have hcd : m.call.toNat < dn.length := by omega
    refine zW (xN (by kernel_rfl) (by kernel_rfl) (zb rfl (zK) (zb rfl (zq rfl) (zb rfl (zc (o := 2) rfl) (zb rfl (zl 0 (v := dv) rfl rfl rfl) (zb rfl (zc (o := 0) rfl) (zb rfl (zl 8 (v := Vi m.call) rfl rfl rfl) (zb rfl (z7 (pV 1 rfl) 1 ((m.call).toNat) rfl rfl (by omega) (by omega)) (zb rfl (yT (pV 1 rfl) 1 ((m.call).toNat) 0 (fun _ => rfl) rfl rfl (by omega) rfl) (zb rfl (y8) (js (jm rfl (fun c3 => ?_) (fun c3 => ?_)))))))))))))
    ·
     refine zB (zH rfl (zA ?_))
     exact zN (z4 (v := Vi 9) rfl rfl (fun w' hw => ⟨dn, now, cnt, kb, kl, kr, (zDf (mv9 c1 c2 c3)), zFY (mv9 c1 c2 c3) (by decide), hw.sel [0, 1, 2, 3, 4, 5, 6, 7] rfl (by decide)⟩))
    ·
     refine zB (zC rfl (zO (o := 0) rfl rfl (zU 8 (v := Vi m.call) rfl rfl rfl rfl (zQ rfl rfl (fun w' hw => (zIT o b v dv l dn m.call w' (by first | omega | (simp <;> omega)) (by first | omega | (simp <;> omega)) (by first | omega | (simp <;> omega)) (by first | omega | (simp <;> omega)) (hw.give [0, 1] rfl (by decide)) (hw.rdTo hv [0, 1] rfl)).mono ?_)))))
     rintro _ w1 ⟨rfl, hO⟩
     refine (?_ : CL _ _ _ _ _ _ (Own w S [Res.row b 115 [.pointer (some ⟨tb, 0, none⟩), .pointer (some ⟨cb, 0, none⟩), Vn idx], Res.row tb 126 [.map (some bm), .map (some lm), Vi now, Vn cnt], Res.mp Value.string yE bm kb, Res.mp yC zk lm kl, Res.row cb 130 [.map (some rm)], Res.mp ym zx rm kr, Res.row b3 65 (MovD.cells m), Res.row o 92 [.pointer (some ⟨b, 0, none⟩), v, dv], Res.vec 4 1 dv dn.length (dn.flatMap B1)])) w1 (hw.frameL [0, 1] rfl hO)
     refine zH rfl (zA (zV rfl (fun c4 => ?_) (fun c4 => ?_)))
     ·
      refine zB (zH rfl (zA ?_))
      exact zN (z4 (v := Vi 20) rfl rfl (fun w' hw => ⟨dn, now, cnt, kb, kl, kr, (zDf (zK2 c1 c2 c3 c4)), zFY (zK2 c1 c2 c3 c4) (by decide), hw.sel [7, 8, 0, 1, 2, 3, 4, 5] rfl (by decide)⟩))
     ·
      have hce : zG dn m.call.toNat = false ∧ ¬ jI l dn (zG l m.call.toNat) := ⟨c3, c4⟩
      refine zJ (zL (zL (zZ [0, 2, 4, 5, 6, 7, 8] rfl (by decide) (by kernel_rfl) (fun w' hw hS => zD 0 rfl (zK) hS (zD 1 rfl (zq rfl) hS (zD 2 rfl (zc (o := 0) rfl) hS (zD 3 rfl (zl 5 (v := .pointer (some ⟨b, 0, none⟩)) rfl rfl rfl) hS (zD 4 rfl (zq rfl) hS (zD 5 rfl (zc (o := 0) rfl) hS (zD 6 rfl (zl 0 (v := .pointer (some ⟨tb, 0, none⟩)) rfl rfl rfl) hS (zD 7 rfl (zc (o := 1) rfl) hS (zD 8 rfl (zl 4 (v := Vi m.delta) rfl rfl rfl) hS ?_))))))))))))
      refine zX 9 rfl hw (zQ rfl rfl (fun w' hw => (zHm tb bm lm now cnt kl m.delta w' (by first | omega | (simp <;> omega)) ‹_› (LSt.nd hT) (LSt.len hT) (hw.give [1, 3] rfl (by decide))).mono ?_))
      rintro _ w1 ⟨gv1_, gs2_, e3_, now'4_, kl'5_, rfl, hf8_9, hf8_9_1, hf8_9_2, hf8_9_3, hf8_9_4, hO⟩
      have hTp := hT.pass hmd hf8_9_1 hf8_9_2
      have hpe := hf8_9
      have hne : ∀ q : yt now m.delta ≠ 0, yt t.now m.delta ≠ 0 := fun q => by rw [← LSt.n hT]; exact q
      refine (?_ : CL _ _ _ _ _ _ (Own w S [Res.row b 115 [.pointer (some ⟨tb, 0, none⟩), .pointer (some ⟨cb, 0, none⟩), Vn idx], Res.mp Value.string yE bm kb, Res.row cb 130 [.map (some rm)], Res.mp ym zx rm kr, Res.row b3 65 (MovD.cells m), Res.row o 92 [.pointer (some ⟨b, 0, none⟩), v, dv], Res.vec 4 1 dv dn.length (dn.flatMap B1), Res.row tb 126 [.map (some bm), .map (some lm), Vi now'4_, Vn cnt], Res.mp yC zk lm kl'5_, Res.vec 32 1 gv1_ gs2_.length (gs2_.flatMap U1)])) w1 (hw.frameL [1, 3] rfl hO)
      refine zE [0, 1, 2, 3, 4, 5, 6] rfl (by decide) (fun w' hw hS => zD 10 rfl (zK) hS (zD 11 rfl (yS (vs := [gv1_, Vi e3_]) rfl rfl) hS (zD 12 rfl (yS (vs := [gv1_, Vi e3_]) rfl rfl) hS (zD 13 rfl (y8) hS (zD 14 rfl (y8) hS (zM ?_))))))
      refine (?_ : C _ _ _ _ _ _ _ (Own w S [Res.row b 115 [.pointer (some ⟨tb, 0, none⟩), .pointer (some ⟨cb, 0, none⟩), Vn idx], Res.mp Value.string yE bm kb, Res.row cb 130 [.map (some rm)], Res.mp ym zx rm kr, Res.row b3 65 (MovD.cells m), Res.row o 92 [.pointer (some ⟨b, 0, none⟩), v, dv], Res.vec 4 1 dv dn.length (dn.flatMap B1), Res.row tb 126 [.map (some bm), .map (some lm), Vi now'4_, Vn cnt], Res.mp yC zk lm kl'5_, Res.vec 32 1 gv1_ gs2_.length (gs2_.flatMap U1)])) _ hw
      refine zB (zC rfl (jK rfl rfl rfl (zA (zV rfl (fun c5 => ?_) (fun c5 => ?_)))))
      ·
       refine zB (zC rfl (zH rfl (zA ?_)))
       exact zN (z4 (v := Vi e3_) rfl rfl (fun w' hw => ⟨dn, now'4_, cnt, kb, kl'5_, kr, (by rw [hpe, LSt.n hT]; exact zDf (mvE c1 (fun _ => hce) (hne (by rw [← hpe]; exact c5)))), zFY (mvE c1 (fun _ => hce) (hne (by rw [← hpe]; exact c5))) (hne (by rw [← hpe]; exact c5)), hw.sel [5, 6, 0, 7, 1, 8, 2, 3] rfl (by decide)⟩))
      ·
       have hok : ¬ yt t.now m.delta ≠ 0 := by rw [← LSt.n hT, ← hpe]; exact c5
       refine zJ (zL (zB (zO (o := 0) rfl rfl (zU 4 (v := Vi m.call) rfl rfl rfl rfl (yU rfl rfl rfl (zA (zKc rfl c2 (zL (zZ [0, 1, 2, 3, 4, 5, 7, 8, 9] rfl (by decide) (by kernel_rfl) (fun w' hw hS => zD 0 rfl (zK) hS (zD 1 rfl (zq rfl) hS (zD 2 rfl (zc (o := 2) rfl) hS ?_))))))))))))
       refine zD 3 rfl (zl 5 (v := dv) rfl rfl rfl) hS (zD 4 rfl (zc (o := 0) rfl) hS (zD 5 rfl (zl 4 (v := Vi m.call) rfl rfl rfl) hS (zX 6 rfl hw (zF (pV 6 rfl) 1 ((m.call).toNat) rfl rfl (by omega) (by omega) rfl (zE [0, 1, 2, 3, 4, 5, 7, 8, 9] rfl (by decide) (fun w' hw hS => zX 7 rfl hw (zS 6 ((m.call).toNat) true rfl (fun _ => rfl) rfl (by omega) rfl rfl rfl (by omega) (zE [0, 1, 2, 3, 4, 5, 7, 8, 9] rfl (by decide) (fun w' hw hS => zM ?_)))))))))
       refine (?_ : C _ _ _ _ _ _ _ (Own w S [Res.row b 115 [.pointer (some ⟨tb, 0, none⟩), .pointer (some ⟨cb, 0, none⟩), Vn idx], Res.mp Value.string yE bm kb, Res.row cb 130 [.map (some rm)], Res.mp ym zx rm kr, Res.row b3 65 (MovD.cells m), Res.row o 92 [.pointer (some ⟨b, 0, none⟩), v, dv], Res.vec 4 1 dv (dn.set ((m.call).toNat) true).length ((dn.set ((m.call).toNat) true).flatMap B1), Res.row tb 126 [.map (some bm), .map (some lm), Vi now'4_, Vn cnt], Res.mp yC zk lm kl'5_, Res.vec 32 1 gv1_ gs2_.length (gs2_.flatMap U1)])) _ hw
       refine zL (zZ [4, 9] rfl (by decide) (by kernel_rfl) (fun w' hw hS => zD 0 rfl (zK) hS (zD 1 rfl (zK) hS (zD 2 rfl (zq rfl) hS (zD 3 rfl (zc (o := 1) rfl) hS (zD 5 rfl (zc (o := 0) rfl) hS (zD 6 rfl (zl 0 (v := Vi m.call) rfl rfl rfl) hS (zX 4 rfl hw (zU 5 (v := v) rfl rfl rfl rfl (zE [4, 9] rfl (by decide) (fun w' hw hS => zD 7 rfl (z7 (pR hv) 21 ((m.call).toNat) rfl rfl (by omega) (by omega)) hS (zD 8 rfl (zKd (pR hv) 21 ((m.call).toNat) (off := yK v + ((m.call).toNat) * 21) (fun _ => rfl) rfl rfl (by omega)) hS ?_))))))))))))
       refine zX 9 rfl hw (zQ rfl rfl (fun w' hw => (zI9 o v dv l (dn.set ((m.call).toNat) true) b tb cb bm lm rm idx now'4_ cnt kb kl'5_ kr (kS t m.delta) (zG l ((m.call).toNat)) w' hTp (hcw _ (yR hcl)) hn (hw.give [5, 6, 0, 7, 1, 8, 2, 3] rfl (by decide)) (hw.rdTo hv [5, 6, 0, 7, 1, 8, 2, 3] rfl)).mono ?_))
       rintro _ w1 ⟨now'6_, cnt'7_, kb'8_, kl'9_, kr'10_, rfl, hf13_9, hO⟩
       refine (?_ : CL _ _ _ _ _ _ (Own w S [Res.row b3 65 (MovD.cells m), Res.vec 32 1 gv1_ gs2_.length (gs2_.flatMap U1), Res.row o 92 [.pointer (some ⟨b, 0, none⟩), v, dv], Res.vec 4 1 dv (dn.set ((m.call).toNat) true).length ((dn.set ((m.call).toNat) true).flatMap B1), Res.row b 115 [.pointer (some ⟨tb, 0, none⟩), .pointer (some ⟨cb, 0, none⟩), Vn idx], Res.row tb 126 [.map (some bm), .map (some lm), Vi now'6_, Vn cnt'7_], Res.mp Value.string yE bm kb'8_, Res.mp yC zk lm kl'9_, Res.row cb 130 [.map (some rm)], Res.mp ym zx rm kr'10_])) w1 (hw.frameL [5, 6, 0, 7, 1, 8, 2, 3] rfl hO)
       refine zE [0, 1] rfl (by decide) (fun w' hw hS => zD 10 rfl (zGI (b := (xY (kS t m.delta) (zG l ((m.call).toNat))).1) rfl) hS (zM ?_))
       refine (?_ : C _ _ _ _ _ _ _ (Own w S [Res.row b3 65 (MovD.cells m), Res.vec 32 1 gv1_ gs2_.length (gs2_.flatMap U1), Res.row o 92 [.pointer (some ⟨b, 0, none⟩), v, dv], Res.vec 4 1 dv (dn.set ((m.call).toNat) true).length ((dn.set ((m.call).toNat) true).flatMap B1), Res.row b 115 [.pointer (some ⟨tb, 0, none⟩), .pointer (some ⟨cb, 0, none⟩), Vn idx], Res.row tb 126 [.map (some bm), .map (some lm), Vi now'6_, Vn cnt'7_], Res.mp Value.string yE bm kb'8_, Res.mp yC zk lm kl'9_, Res.row cb 130 [.map (some rm)], Res.mp ym zx rm kr'10_])) _ hw
       refine jm rfl (fun c7 => ?_) (fun c7 => ?_)
       ·
        refine zB (zH rfl (zA ?_))
        exact zN (z4 (v := Vi 18) rfl rfl (fun w' hw => ⟨dn.set m.call.toNat true, now'6_, cnt'7_, kb'8_, kl'9_, kr'10_, (by have h := mvC (s := ⟨t, dn⟩) c1 c2 hce hok; rw [if_neg (by rw [notFi.1 c7]; decide)] at h; exact zDf h), by have h := mvC (s := ⟨t, dn⟩) c1 c2 hce hok; rw [if_neg (by rw [notFi.1 c7]; decide)] at h; exact zFY h (by decide), hw.sel [2, 3, 4, 5, 6, 7, 8, 9] rfl (by decide)⟩))
       ·
        refine zJ (zB (zH rfl (zA ?_)))
        exact zN (z4 (v := Vi 0) rfl rfl (fun w' hw => ⟨dn.set m.call.toNat true, now'6_, cnt'7_, kb'8_, kl'9_, kr'10_, (by have h := mvC (s := ⟨t, dn⟩) c1 c2 hce hok; rw [if_pos (zME c7)] at h; exact zDf h), by have h := mvC (s := ⟨t, dn⟩) c1 c2 hce hok; intro _; rw [h]; exact ⟨rfl, hf13_9⟩, hw.sel [2, 3, 4, 5, 6, 7, 8, 9] rfl (by decide)⟩))
   ·
    refine zJ (zL (zL (zZ [0, 1, 2, 4, 6, 7, 8] rfl (by decide) (by kernel_rfl) (fun w' hw hS => zD 0 rfl (zK) hS (zD 1 rfl (zq rfl) hS (zD 2 rfl (zc (o := 0) rfl) hS (zD 3 rfl (zl 0 (v := .pointer (some ⟨b, 0, none⟩)) rfl rfl rfl) hS (zD 4 rfl (zq rfl) hS (zD 5 rfl (zc (o := 0) rfl) hS (zD 6 rfl (zl 2 (v := .pointer (some ⟨tb, 0, none⟩)) rfl rfl rfl) hS (zD 7 rfl (zc (o := 1) rfl) hS (zD 8 rfl (zl 6 (v := Vi m.delta) rfl rfl rfl) hS ?_))))))))))))
    refine zX 9 rfl hw (zQ rfl rfl (fun w' hw => (zHm tb bm lm now cnt kl m.delta w' (by first | omega | (simp <;> omega)) ‹_› (LSt.nd hT) (LSt.len hT) (hw.give [3, 5] rfl (by decide))).mono ?_))
    rintro _ w1 ⟨gv11_, gs12_, e13_, now'14_, kl'15_, rfl, hf8_9, hf8_9_1, hf8_9_2, hf8_9_3, hf8_9_4, hO⟩
    have hTp := hT.pass hmd hf8_9_1 hf8_9_2
    have hpe := hf8_9
    have hne : ∀ q : yt now m.delta ≠ 0, yt t.now m.delta ≠ 0 := fun q => by rw [← LSt.n hT]; exact q
    refine (?_ : CL _ _ _ _ _ _ (Own w S [Res.row o 92 [.pointer (some ⟨b, 0, none⟩), v, dv], Res.vec 4 1 dv dn.length (dn.flatMap B1), Res.row b 115 [.pointer (some ⟨tb, 0, none⟩), .pointer (some ⟨cb, 0, none⟩), Vn idx], Res.mp Value.string yE bm kb, Res.row cb 130 [.map (some rm)], Res.mp ym zx rm kr, Res.row b3 65 (MovD.cells m), Res.row tb 126 [.map (some bm), .map (some lm), Vi now'14_, Vn cnt], Res.mp yC zk lm kl'15_, Res.vec 32 1 gv11_ gs12_.length (gs12_.flatMap U1)])) w1 (hw.frameL [3, 5] rfl hO)
    refine zE [0, 1, 2, 3, 4, 5, 6] rfl (by decide) (fun w' hw hS => zD 10 rfl (zK) hS (zD 11 rfl (yS (vs := [gv11_, Vi e13_]) rfl rfl) hS (zD 12 rfl (yS (vs := [gv11_, Vi e13_]) rfl rfl) hS (zD 13 rfl (y8) hS (zD 14 rfl (y8) hS (zM ?_))))))
    refine (?_ : C _ _ _ _ _ _ _ (Own w S [Res.row o 92 [.pointer (some ⟨b, 0, none⟩), v, dv], Res.vec 4 1 dv dn.length (dn.flatMap B1), Res.row b 115 [.pointer (some ⟨tb, 0, none⟩), .pointer (some ⟨cb, 0, none⟩), Vn idx], Res.mp Value.string yE bm kb, Res.row cb 130 [.map (some rm)], Res.mp ym zx rm kr, Res.row b3 65 (MovD.cells m), Res.row tb 126 [.map (some bm), .map (some lm), Vi now'14_, Vn cnt], Res.mp yC zk lm kl'15_, Res.vec 32 1 gv11_ gs12_.length (gs12_.flatMap U1)])) _ hw
    refine zB (zC rfl (jK rfl rfl rfl (zA (zV rfl (fun c8 => ?_) (fun c8 => ?_)))))
    ·
     refine zB (zC rfl (zH rfl (zA ?_)))
     exact zN (z4 (v := Vi e13_) rfl rfl (fun w' hw => ⟨dn, now'14_, cnt, kb, kl'15_, kr, (by rw [hpe, LSt.n hT]; exact zDf (mvE c1 (fun q => absurd q c2) (hne (by rw [← hpe]; exact c8)))), zFY (mvE c1 (fun q => absurd q c2) (hne (by rw [← hpe]; exact c8))) (hne (by rw [← hpe]; exact c8)), hw.sel [0, 1, 2, 7, 3, 8, 4, 5] rfl (by decide)⟩))
    ·
     have hok : ¬ yt t.now m.delta ≠ 0 := by rw [← LSt.n hT, ← hpe]; exact c8
     refine zJ (zL (zB (zO (o := 0) rfl rfl (zU 6 (v := Vi m.call) rfl rfl rfl rfl (yU rfl rfl rfl (zA (zKa rfl c2 (zJ (zB (zH rfl (zA ?_)))))))))))
     exact zN (z4 (v := Vi 0) rfl rfl (fun w' hw => ⟨dn, now'14_, cnt, kb, kl'15_, kr, (zDf (mvN c1 c2 hok)), by rw [mvN c1 c2 hok]; exact fun _ => ⟨rfl, hTp⟩, hw.sel [0, 1, 2, 7, 3, 8, 4, 5] rfl (by decide)⟩))
end Go.Proofs.YtcdiehplbmkmeaaGreat
