import Derived.Test.YtcdiehplbmkmeaaLinP
import Derived.Test.YtcdiehplbmkmeaaLinC
import Derived.Test.YtcdiehplbmkmeaaLedW
import Derived.Test.YtcdiehplbmkmeaaLDupC
import Derived.Test.YtcdiehplbmkmeaaFwZ
set_option linter.unusedSectionVars false
set_option linter.unusedSimpArgs false
set_option linter.unusedVariables false
set_option maxRecDepth 10000
namespace Go.Proofs.Ytcdiehplbmkmeaa
open Go Go.Sc Go.Proofs
theorem zGV {P : Program} {kt : TypeId} {q : IntKind} (h : zFD P kt = some q) : KeyL P kt (fun n : Int => Value.int q n) := by
  unfold zFD at h
  split at h
  · rename_i k hk
    simp at h; subst h
    refine ⟨⟨_, hk, fun a b => ?_, .inl ⟨_, rfl⟩⟩, fun a => ?_⟩
    · simp only [Instr.sameNow, if_true]
      congr 1
    · simp [Instr.sameBits]
  · cases h
def zEh (l : CallD) : Value := .agg l.cells.toArray
def x9 : CallD := ⟨0, false, false, zJJ, ⟨#[]⟩, 0, 0, zKh, 0, 0⟩
theorem zKE : KeyL Try.prog 3 z6 := zGV (by kernel_rfl)
theorem zJj : xo Try.prog 45 = some (3, 34) := by kernel_rfl
theorem zJy : x7 Try.prog 34 = some (zEh x9) := by kernel_rfl
def LastI (l : List CallD) (i : Nat) (kl : List (Int × CallD)) : Prop := ∀ e, zY e kl = yv (l.take i) e
theorem LastI.start (l : List CallD) : LastI l 0 [] := fun e => rfl
theorem LastI.next {l : List CallD} {i : Nat} {kl : List (Int × CallD)} (h : LastI l i kl) (hi : i < l.length) : LastI l (i + 1) (yq (zG l i).edge (zG l i) kl) := fun e => by
  rw [zC6, h e, xA hi, yn]
  by_cases q : e = (zG l i).edge
  · rw [if_pos q, if_pos q.symm]
  · rw [if_neg q, if_neg fun k => q k.symm]
theorem zC1 {c : CallD} (h1 : ¬ (c.beg < 0 ∨ (0 ≤ c.fin ∧ c.fin < c.beg))) (h2 : c.look = true) : (c.cmd = ({ session := 0, seq := 0, op := 0, key := (⟨#[]⟩ : ByteArray), amount := 0, span := 0, lease := 0 } : CmdD)) ↔ c.single := by
  unfold CallD.single; rw [if_pos h2]; exact ⟨fun h => ⟨h1, h⟩, fun h => h.2⟩
theorem zD4 {c : CallD} (h1 : ¬ (c.beg < 0 ∨ (0 ≤ c.fin ∧ c.fin < c.beg))) (h2 : ¬ c.look = true) : (((((yR c.cmd.ok) = 0) ∧ (((0 : Nat) : Int) < ((c.cmd.session : Nat) : Int))) ∧ (((0 : Nat) : Int) < ((c.cmd.seq : Nat) : Int))) ∧ (c.key = (⟨#[]⟩ : ByteArray))) ↔ c.single := by
  unfold CallD.single; rw [if_neg h2, errOf_zero]
  constructor
  · rintro ⟨⟨⟨a, b⟩, d⟩, e⟩; exact ⟨h1, ⟨⟨a, by omega⟩, by omega⟩, e⟩
  · rintro ⟨_, ⟨⟨a, b⟩, d⟩, e⟩; exact ⟨⟨⟨a, by omega⟩, by omega⟩, e⟩
theorem zG5 {l : List CallD} {n : Nat} (hn : n < l.length) (h : ¬ ((zG l n).single ∧ zCz (yv (l.take n) (zG l n).edge) (zG l n))) : ¬ y8 l := fun q => h (q n hn)
abbrev zGn (o : Option CallD) (c : CallD) : Prop := (o.isSome = true) ∧ ((((o.getD x9).fin) < 0) ∨ (c.beg ≤ ((o.getD x9).fin)))
theorem late_iff {o : Option CallD} {c : CallD} : zGn o c ↔ ¬ zCz o c := by
  cases o with
  | none => simp [zCz, zGn]
  | some p => simp only [zGn, zCz, Option.isSome_some, Option.getD_some, true_and, Decidable.not_not]
theorem zGW (c : CallD) (w : World) (hc : c.wf) : Rets Try.prog 12 #[.agg (CallD.cells c).toArray] w fun u_ w' => u_ = .bool (decide c.single) ∧ Own w [] [] w' := by
  have hcm := hc.cmd
  have hck := hcm.key
  refine zh Try.func12 rfl Try.ntmps12 (Own.start w) ?_
  refine zB (yh rfl rfl (fun b1 => zH rfl (zA (zM (zB (zW (o := 11) rfl rfl (zd 0 (v := Vi c.beg) rfl rfl rfl rfl (yO rfl rfl rfl (zC rfl (xJ (q := c.beg < 0) 10 3 [18, 17, 16, 15, 14, 13, 12, 11, 10, 9] ((0 ≤ c.fin) ∧ (c.fin < c.beg)) rfl rfl rfl rfl rfl rfl trivial rfl (fun h1_3 => ?_) (fun g1_14 => ?_)))))))))))
  ·
   refine zV rfl (gF h1_3) (zW (o := 12) rfl rfl (zV rfl (gF h1_3) (zd 0 (v := Vi c.fin) rfl rfl rfl rfl (zV rfl (gF h1_3) (yY rfl rfl rfl (zV rfl (gF h1_3) (zC rfl (yZ (q := 0 ≤ c.fin) 5 7 [17, 16, 15, 14, 13] (c.fin < c.beg) rfl rfl rfl rfl rfl rfl ⟨_, rfl, rfl, gF h1_3⟩ rfl (fun h1_7 => ?_) (fun g1_13 => ?_)))))))))
   ·
    refine zV rfl (gT h1_7) (zW (o := 12) rfl rfl (zV rfl (gT h1_7) (zd 0 (v := Vi c.fin) rfl rfl rfl rfl (zV rfl (gT h1_7) (zW (o := 11) rfl rfl (zV rfl (gT h1_7) (zd 0 (v := Vi c.beg) rfl rfl rfl rfl (zV rfl (gT h1_7) (yO rfl rfl rfl ?_)))))))))
    exact yi rfl (fun _ hw => hw)
   exact yi rfl (fun _ hw => hw)
  refine zA (zU rfl (fun c1 => ?_) (fun c1 => ?_))
  ·
   refine zB (zH rfl (zA ?_))
   exact zR (z3 (v := .bool false) rfl rfl (fun w' hw => ⟨(by congr 1; exact (decide_eq_false (fun q : c.single => q.1 c1)).symm), hw.drop⟩))
  ·
   refine zL (zM (zB (zW (o := 1) rfl rfl (zd 0 (v := .bool c.look) rfl rfl rfl rfl (zA (j8 rfl (fun c2 => ?_) (fun c2 => ?_)))))))
   ·
    refine zB (zW (o := 3) rfl rfl (zCM 0 (CmdD.cells c.cmd) rfl rfl (zAJ 3 rfl) (by kernel_rfl) rfl (yS (cs := [Vn 0, Vn 0, Vi 0, .string (⟨#[]⟩ : ByteArray), Vi 0, Vi 0, Vn 0]) (z := [Vn 0, Vn 0, Vi 0, .string (⟨#[]⟩ : ByteArray), Vi 0, Vi 0, Vn 0]) (pl := [(0, 1), (1, 1), (2, 1), (3, 1), (4, 1), (5, 1), (6, 1)]) (by kernel_rfl) (by kernel_rfl) rfl (z5 rfl (zFd (zJX c.cmd ({ session := 0, seq := 0, op := 0, key := (⟨#[]⟩ : ByteArray), amount := 0, span := 0, lease := 0 } : CmdD)) (by kernel_rfl) (by kernel_rfl) rfl rfl rfl rfl) (zH rfl (zA ?_))))))
    exact zR (z3 (v := .bool (decide (c.cmd = ({ session := 0, seq := 0, op := 0, key := (⟨#[]⟩ : ByteArray), amount := 0, span := 0, lease := 0 } : CmdD)))) rfl rfl (fun w' hw => ⟨(by congr 1; exact decide_eq_decide.2 (zC1 c1 c2)), hw.drop⟩))
   ·
    refine zL (zB (zW (o := 3) rfl rfl (zCM 0 (CmdD.cells c.cmd) rfl rfl (zAJ 3 rfl) (by kernel_rfl) rfl (zQ rfl rfl (fun w' hw => (zAB c.cmd w' ‹_›).mono ?_)))))
    rintro _ w1 ⟨r1_, rfl, hO⟩
    refine (?_ : CL _ _ _ _ _ _ (Own w [] [Res.row b1 34 (CallD.cells c), Res.vec 5 1 r1_ (if c.cmd.ok then c.cmd.enc else []).length ((if c.cmd.ok then c.cmd.enc else []).map vb)])) w1 (hw.frame0 hO)
    refine zC rfl (zl (vs := [r1_, Vi (yR c.cmd.ok)]) rfl rfl rfl (zl (vs := [r1_, Vi (yR c.cmd.ok)]) rfl rfl rfl (zH rfl (zH rfl (zA (zB (zC rfl (yr rfl rfl rfl (zC rfl (yZ (q := (yR c.cmd.ok) = 0) 4 2 [38, 37, 36, 35] (((0 : Nat) : Int) < ((c.cmd.session : Nat) : Int)) rfl rfl rfl rfl rfl rfl trivial rfl (fun h6_2 => ?_) (fun g6_7 => ?_)))))))))))
    ·
     refine zV rfl (gT h6_2) (zW (o := 3) rfl rfl (zV rfl (gT h6_2) (zW (o := 0) rfl rfl (zV rfl (gT h6_2) (zd 0 (v := Vn c.cmd.session) rfl rfl rfl rfl (zV rfl (gT h6_2) (xY rfl rfl rfl ?_)))))))
     exact yi rfl (fun _ hw => hw)
    refine zC rfl (yZ (q := ((yR c.cmd.ok) = 0) ∧ (((0 : Nat) : Int) < ((c.cmd.session : Nat) : Int))) 4 8 [44, 43, 42, 41] (((0 : Nat) : Int) < ((c.cmd.seq : Nat) : Int)) rfl rfl rfl rfl rfl rfl trivial rfl (fun h6_8 => ?_) (fun g6_13 => ?_))
    ·
     refine zV rfl (gT h6_8) (zW (o := 3) rfl rfl (zV rfl (gT h6_8) (zW (o := 1) rfl rfl (zV rfl (gT h6_8) (zd 0 (v := Vn c.cmd.seq) rfl rfl rfl rfl (zV rfl (gT h6_8) (xY rfl rfl rfl ?_)))))))
     exact yi rfl (fun _ hw => hw)
    refine zC rfl (yZ (q := (((yR c.cmd.ok) = 0) ∧ (((0 : Nat) : Int) < ((c.cmd.session : Nat) : Int))) ∧ (((0 : Nat) : Int) < ((c.cmd.seq : Nat) : Int))) 3 14 [49, 48, 47] (c.key = (⟨#[]⟩ : ByteArray)) rfl rfl rfl rfl rfl rfl trivial rfl (fun h6_14 => ?_) (fun g6_18 => ?_))
    ·
     refine zV rfl (gT h6_14) (zW (o := 10) rfl rfl (zV rfl (gT h6_14) (zd 0 (v := .string c.key) rfl rfl rfl rfl (zV rfl (gT h6_14) (zIb rfl rfl rfl ?_)))))
     exact yi rfl (fun _ hw => hw)
    refine zH rfl (zA ?_)
    exact zR (z3 (v := .bool (decide (((((yR c.cmd.ok) = 0) ∧ (((0 : Nat) : Int) < ((c.cmd.session : Nat) : Int))) ∧ (((0 : Nat) : Int) < ((c.cmd.seq : Nat) : Int))) ∧ (c.key = (⟨#[]⟩ : ByteArray))))) rfl rfl (fun w' hw => ⟨(by congr 1; exact decide_eq_decide.2 (zD4 c1 (by rw [c2]; decide))), hw.drop⟩))
theorem zDA (v : Value) (l : List CallD) (w : World) (hcw : ∀ c ∈ l, c.wf) (hl : l.length ≤ 10000000) (hv : Rd w [] (Res.sl v l.length (l.flatMap CallD.cells))) : Rets Try.prog 7 #[v] w fun u_ w' => u_ = Vi (if y8 l then (0 : Int) else 2) ∧ Own w [] [] w' := by
  refine zh Try.func7 rfl Try.ntmps7 (Own.start w) ?_
  refine zB (zH rfl (zA (zB (j6 (α := CallD) z6 zEh rfl rfl (fun m8 => zH rfl (zA (zM (zB (zC rfl (yL (pR hv) rfl rfl (zC rfl (zA ?_))))))))))))
  refine zS ?_
  refine y4 (fun (i : Nat) (kl : List (Int × CallD)) => [(3, .map (some m8)), (9, v), (10, Vj l.length), (11, Vj i)]) (fun (i : Nat) (kl : List (Int × CallD)) => i ≤ l.length ∧ LastI l i kl ∧ SoundTo l i) (fun (i : Nat) (kl : List (Int × CallD)) => [Res.mp z6 zEh m8 kl]) (fun (i : Nat) (kl : List (Int × CallD)) => l.length - i) (fun w' hw => ⟨0, [], ⟨rfl, rfl, rfl, rfl, trivial⟩, ⟨Nat.zero_le _, LastI.start l, SoundTo.start l⟩, hw⟩) (fun i kl g hΦ => ?_)
  have hi := hΦ.1
  have hL := hΦ.2.1
  have hS := hΦ.2.2
  refine zB (yO rfl rfl rfl (zA (zM (zU rfl (fun c1 => ?_) (fun c1 => ?_)))))
  ·
   have hil : i < l.length := by omega
   have hg := hL (zG l i).edge
   refine zL (zM (zS (zB (zD (pR hv) 21 i rfl rfl rfl (by omega) rfl (zAN (pR hv) 21 i (off := yw v + i * 21) (fun _ => rfl) rfl rfl (by omega) rfl (yP (v := .agg #[Vi 0, .bool false, .bool false, Vn 0, Vn 0, Vi 0, .string (⟨#[]⟩ : ByteArray), Vi 0, Vi 0, Vn 0, .string (⟨#[]⟩ : ByteArray), Vi 0, Vi 0, Vn 0, Vn 0, Vi 0, Vn 0, Vi 0, Vi 0, Vi 0, Vi 0]) (by kernel_rfl) rfl (fun b5 => zu 1 rfl rfl rfl (yC rfl) rfl (zA (zB (zC rfl (zW (o := 0) rfl rfl (zd 1 (v := Vi ((zG l i).edge)) rfl rfl rfl rfl ?_))))))))))))
   refine zBJ (k := (zG l i).edge) (kv := kl) (zv := x9) zKE zJj zJy rfl rfl (fun w' hw' => Own.holds hw' 0 _ rfl) rfl (zC rfl (zl (vs := [.agg (CallD.cells ((zY ((zG l i).edge) kl).getD x9)).toArray, .bool ((zY ((zG l i).edge) kl).isSome)]) rfl rfl rfl (zl (vs := [.agg (CallD.cells ((zY ((zG l i).edge) kl).getD x9)).toArray, .bool ((zY ((zG l i).edge) kl).isSome)]) rfl rfl rfl (yP (v := .agg #[Vi 0, .bool false, .bool false, Vn 0, Vn 0, Vi 0, .string (⟨#[]⟩ : ByteArray), Vi 0, Vi 0, Vn 0, .string (⟨#[]⟩ : ByteArray), Vi 0, Vi 0, Vn 0, Vn 0, Vi 0, Vn 0, Vi 0, Vi 0, Vi 0, Vi 0]) (by kernel_rfl) rfl (fun b6 => zu 2 rfl rfl rfl (yC rfl) rfl (zH rfl (zA (zM (zB (yk (cs := (CallD.cells (zG l i))) 1 rfl rfl rfl (zQ rfl rfl (fun w' hw => (zGW (zG l i) w' (hcw _ (yH hil))).mono ?_))))))))))))
   rintro _ w1 ⟨rfl, hO⟩
   refine (?_ : CL _ _ _ _ _ _ (Own w [] [Res.mp z6 zEh m8 kl, Res.row b5 34 (CallD.cells (zG l i)), Res.row b6 34 (CallD.cells ((zY ((zG l i).edge) kl).getD x9))])) w1 (hw.frame0 hO)
   refine k6 (q := (zG l i).single) rfl rfl (zC rfl (xJ (q := ¬ ((zG l i).single)) 13 3 [38, 37, 36, 35, 34, 33, 32, 31, 30, 29, 28, 27, 26] ((((zY ((zG l i).edge) kl).isSome) = true) ∧ (((((zY ((zG l i).edge) kl).getD x9).fin) < 0) ∨ (((zG l i).beg) ≤ (((zY ((zG l i).edge) kl).getD x9).fin)))) rfl rfl rfl rfl rfl rfl trivial rfl (fun h6_3 => ?_) (fun g6_17 => ?_)))
   ·
    refine zV rfl (gF h6_3) (zC rfl (zV rfl (gF h6_3) (zC rfl (yZ (q := ((zY ((zG l i).edge) kl).isSome) = true) 10 5 [37, 36, 35, 34, 33, 32, 31, 30, 29, 28] (((((zY ((zG l i).edge) kl).getD x9).fin) < 0) ∨ (((zG l i).beg) ≤ (((zY ((zG l i).edge) kl).getD x9).fin))) rfl rfl (xO _) rfl rfl rfl ⟨_, rfl, rfl, gF h6_3⟩ rfl (fun h6_5 => ?_) (fun g6_16 => ?_)))))
    ·
     refine zV rfl (bT h6_5) (zW (o := 12) rfl rfl (zV rfl (bT h6_5) (zd 2 (v := Vi (((zY ((zG l i).edge) kl).getD x9).fin)) rfl rfl rfl rfl (zV rfl (bT h6_5) (yO rfl rfl rfl (zV rfl (bT h6_5) (zC rfl (xJ (q := (((zY ((zG l i).edge) kl).getD x9).fin) < 0) 5 9 [36, 35, 34, 33, 32] (((zG l i).beg) ≤ (((zY ((zG l i).edge) kl).getD x9).fin)) rfl rfl rfl rfl rfl rfl ⟨_, rfl, rfl, (bT h6_5)⟩ rfl (fun h6_9 => ?_) (fun g6_15 => ?_)))))))))
     ·
      refine zV rfl (gF h6_9) (zW (o := 11) rfl rfl (zV rfl (gF h6_9) (zd 1 (v := Vi ((zG l i).beg)) rfl rfl rfl rfl (zV rfl (gF h6_9) (zW (o := 12) rfl rfl (zV rfl (gF h6_9) (zd 2 (v := Vi (((zY ((zG l i).edge) kl).getD x9).fin)) rfl rfl rfl rfl (zV rfl (gF h6_9) (zAj rfl rfl rfl ?_)))))))))
      exact yi rfl (fun _ hw => hw)
     exact yi rfl (fun _ hw => hw)
    exact yi rfl (fun _ hw => hw)
   refine zA (zU rfl (fun c2 => ?_) (fun c2 => ?_))
   ·
    refine zB (zH rfl (zA ?_))
    exact zR (z3 (v := Vi 2) rfl rfl (fun w' hw => ⟨(by congr 1; exact (if_neg (zG5 hil (fun q => c2.elim (fun k => k q.1) (fun k => by rw [hg] at k; exact late_iff.1 k q.2)))).symm), hw.drop⟩))
   ·
    refine zL (zg (zC rfl (zW (o := 0) rfl rfl (zd 1 (v := Vi ((zG l i).edge)) rfl rfl rfl rfl (yk (cs := (CallD.cells (zG l i))) 1 rfl rfl rfl (zAZ 0 (k := (zG l i).edge) (v := (zG l i)) zKE zJj rfl rfl rfl rfl (zA (zg (zw rfl rfl (zt (by omega)) rfl (zC rfl ?_))))))))))
    exact zf (fun w' hw => ⟨i + 1, yq (zG l i).edge (zG l i) kl, ⟨rfl, rfl, rfl, rfl, trivial⟩, ⟨hil, hL.next hil, hS.next (Decidable.not_not.1 fun q => c2 (.inl q)) (Decidable.not_not.1 fun q => c2 (.inr (by rw [hg]; exact late_iff.2 q)))⟩, hw.sel [0] rfl (by decide), (by omega)⟩)
  ·
   refine yA rfl (zB (zH rfl (zA ?_)))
   exact zR (z3 (v := Vi 0) rfl rfl (fun w' hw => ⟨(by congr 1; exact (if_pos (by have e : i = l.length := (by omega); rw [e] at hS; exact hS)).symm), hw.drop⟩))
def LT (idx : Nat) (now : Int) (cnt : Nat) (kb : List (ByteArray × Int)) (kl : List (Nat × LeaD)) (kr : List (Nat × RepD)) (t : RL) : Prop := LSt idx now cnt kb kl kr idx t.now t.cnt t.bs t.ls t.rs
section
variable {idx : Nat} {now : Int} {cnt : Nat} {kb : List (ByteArray × Int)} {kl : List (Nat × LeaD)} {kr : List (Nat × RepD)} {t : RL}
theorem LT.start (idx : Nat) : LT idx 0 0 [] [] [] ⟨0, 0, [], [], []⟩ := ⟨rfl, rfl, rfl, LOkR.start, LRel.start⟩
theorem LT.do (h : LT idx now cnt kb kl kr t) {c : CmdD} {r : RepD} {did : Bool} {cnt' : Nat} {kb' : List (ByteArray × Int)} {kl' : List (Nat × LeaD)} {kr' : List (Nat × RepD)} (hc : c.wf) (hn : t.cnt < 1000000000) (h1 : DoK now cnt kb kl kr c r did cnt' kb' kl' kr') :
    (r = (doF t c).1.1 ∧ did = (doF t c).1.2) ∧ LT idx now cnt' kb' kl' kr' (doF t c).2 ∧ (doF t c).2.cnt ≤ t.cnt + 1 ∧ r.wf := by
  obtain ⟨h2, h3⟩ := zI0 t c
  obtain ⟨q1, q2, q3, q4⟩ := LSt.do h hc hn h1 h2
  refine ⟨q1, ?_, q3, q4⟩
  unfold LT; rw [h3]; exact q2
theorem LT.pass (h : LT idx now cnt kb kl kr t) {d : Int} {now' : Int} {kl' : List (Nat × LeaD)} (hd : ye d) (e1 : now' = zAh now d) (e2 : kl' = kd now d kl) : LT idx now' cnt kb kl' kr (xZ t d) := by
  obtain ⟨_, q1, q2, q3, q4⟩ := h
  subst q1 e1 e2
  exact ⟨rfl, rfl, q2, ⟨q3.q.pass d hd, q3.s, q3.c, q3.w, q3.n, fun l hl => q3.a l (by unfold xZ zA8 at hl; dsimp only at hl; split at hl; exact (List.mem_filter.1 hl).1; exact hl)⟩, ⟨q4.q.pass d, q4.c⟩⟩
theorem zB0 (h : LT idx now cnt kb kl kr t) {c : CallD} {n : Int} (hc : c.look = true) (hn : n = z4 c.key kl) : decide ((c.fin < 0) ∨ ((c.cap = ((zY c.key kb).getD 0)) ∧ (c.lent = n))) = (yy t c).1 ∧ (yy t c).2 = t := by
  unfold yy
  rw [if_pos hc, hn, h.r.q.lent, h.h.q.bud h.r.q]
  exact ⟨rfl, rfl⟩
theorem zCp {c : CallD} {r : RepD} (hc : ¬ c.look = true) (hr : r = (doF t c.cmd).1.1) : decide ((c.fin < 0) ∨ (r = c.reply)) = (yy t c).1 ∧ (yy t c).2 = (doF t c.cmd).2 := by
  unfold yy
  rw [if_neg hc, hr]
  exact ⟨rfl, rfl⟩
end
theorem zHw {S : List Nat} (b tb cb bm lm idx : Nat) (now : Int) (cnt : Nat) (kb : List (ByteArray × Int)) (kl : List (Nat × LeaD)) (k : ByteArray) (w : World) (hin : Own w S [Res.row b 60 [.pointer (some ⟨tb, 0, none⟩), .pointer (some ⟨cb, 0, none⟩), Vn idx], Res.row tb 71 [.map (some bm), .map (some lm), Vi now, Vn cnt], Res.mp Value.string z6 bm kb, Res.mp zz za lm kl] w) : Rets Try.prog 22 #[.pointer (some ⟨b, 0, none⟩), .string k] w fun u_ w' => ∃ (n : Int), u_ = .tuple #[Vi ((zY k kb).getD 0), Vi n] ∧ n = z4 k kl ∧ Own w S [Res.row b 60 [.pointer (some ⟨tb, 0, none⟩), .pointer (some ⟨cb, 0, none⟩), Vn idx], Res.row tb 71 [.map (some bm), .map (some lm), Vi now, Vn cnt], Res.mp Value.string z6 bm kb, Res.mp zz za lm kl] w' := by
  refine zh Try.func22 rfl Try.ntmps22 hin ?_
  refine zB (zH rfl (zH rfl (zA (zM (zB (zC rfl (xc (by kernel_rfl) rfl rfl rfl (zA (xm rfl (zL (zB (zC rfl ?_))))))))))))
  refine yB rfl rfl (zW (o := 0) rfl rfl (zd 0 (v := .pointer (some ⟨tb, 0, none⟩)) rfl rfl rfl rfl (zC rfl (zQ rfl rfl (fun w' hw => (zHI tb bm lm now cnt kb kl k w' (hw.give [1, 2, 3] rfl (by decide))).mono ?_)))))
  rintro _ w1 ⟨n1_, rfl, hf3_5, hO⟩
  refine (?_ : CL _ _ _ _ _ _ (Own w S [Res.row b 60 [.pointer (some ⟨tb, 0, none⟩), .pointer (some ⟨cb, 0, none⟩), Vn idx], Res.row tb 71 [.map (some bm), .map (some lm), Vi now, Vn cnt], Res.mp Value.string z6 bm kb, Res.mp zz za lm kl])) w1 (hw.frameL [1, 2, 3] rfl hO)
  refine zl (vs := [Vi ((zY k kb).getD 0), Vi n1_]) rfl rfl rfl (zl (vs := [Vi ((zY k kb).getD 0), Vi n1_]) rfl rfl rfl (zH rfl (zH rfl (zA ?_))))
  exact zR (ya (v := Vi ((zY k kb).getD 0)) (v' := Vi n1_) rfl rfl rfl (fun w' hw => ⟨n1_, rfl, hf3_5, hw⟩))
theorem zHZ {S : List Nat} (o b : Nat) (v dv : Value) (l : List CallD) (dn : List Bool) (k : Int) (w : World) (hl : l.length ≤ 10000000) (hd : dn.length = l.length) (hk0 : 0 ≤ k) (hk : k.toNat < l.length) (hin : Own w S [Res.row o 52 [.pointer (some ⟨b, 0, none⟩), v, dv], Res.vec 4 1 dv dn.length (dn.flatMap B1)] w) (hv : Rd w S (Res.sl v l.length (l.flatMap CallD.cells))) : Rets Try.prog 14 #[.pointer (some ⟨o, 0, none⟩), Vi k] w fun u_ w' => u_ = .bool (decide (kM l dn (zG l k.toNat))) ∧ Own w S [Res.row o 52 [.pointer (some ⟨b, 0, none⟩), v, dv], Res.vec 4 1 dv dn.length (dn.flatMap B1)] w' := by
  refine zh Try.func14 rfl Try.ntmps14 hin ?_
  refine zB (zH rfl (zA (zM (zB (zC rfl (yB rfl rfl (zW (o := 1) rfl rfl (zd 0 (v := v) rfl rfl rfl rfl (yL (pR hv) rfl rfl (zC rfl (zA (zS ?_))))))))))))
  refine xL (fun (i : Nat) => [(0, .pointer (some ⟨o, 0, none⟩)), (1, Vi k), (10, v), (11, Vj l.length), (12, Vj i)]) (fun (i : Nat) => i ≤ l.length ∧ ¬ zCb l dn (zG l k.toNat) i) (fun (i : Nat) => [Res.row o 52 [.pointer (some ⟨b, 0, none⟩), v, dv], Res.vec 4 1 dv dn.length (dn.flatMap B1)]) (fun (i : Nat) => l.length - i) (fun w' hw => ⟨0, ⟨rfl, rfl, rfl, rfl, rfl, trivial⟩, ⟨Nat.zero_le _, fun ⟨j, hj, _⟩ => absurd hj (Nat.not_lt_zero j)⟩, hw⟩) (fun i g hΦ => ?_)
  have hi := hΦ.1
  have hE := hΦ.2
  refine zB (yO rfl rfl rfl (zA (zM (zU rfl (fun c1 => ?_) (fun c1 => ?_)))))
  ·
   refine zL (zM (zS (zB (zC rfl (zD (pR hv) 21 i rfl rfl rfl (by omega) rfl (zAN (pR hv) 21 i (off := yw v + i * 21) (fun _ => rfl) rfl rfl (by omega) rfl (yP (v := .agg #[Vi 0, .bool false, .bool false, Vn 0, Vn 0, Vi 0, .string (⟨#[]⟩ : ByteArray), Vi 0, Vi 0, Vn 0, .string (⟨#[]⟩ : ByteArray), Vi 0, Vi 0, Vn 0, Vn 0, Vi 0, Vn 0, Vi 0, Vi 0, Vi 0, Vi 0]) (by kernel_rfl) rfl (fun b6 => zH rfl (zu 2 rfl rfl rfl (yC rfl) rfl (zA (ku (by kernel_rfl) (by kernel_rfl) (zn rfl (zJ) ?_))))))))))))
   refine zn rfl (zr rfl) (zn rfl (zk (o := 2) rfl) (zn rfl (zp 0 (v := dv) rfl rfl rfl) (zn rfl (zJ) (zn rfl (z7 (pV 1 rfl) 1 i rfl rfl rfl (by omega)) (zn rfl (yQ (pV 1 rfl) 1 i 0 (fun _ => rfl) rfl rfl (by omega) rfl) (zn rfl (zIZ (b := (zG dn i)) rfl) (zn rfl (zJ) (zDw (q := (!(zG dn i)) = true) 3 8 [28, 27, 26] (0 ≤ ((zG l i).fin)) rfl rfl (xO _) rfl rfl rfl trivial rfl (fun h4_8 => ?_) (fun g4_12 => ?_)))))))))
   ·
    refine xE rfl (bT h4_8) (zn rfl (zk (o := 12) rfl) (xE rfl (bT h4_8) (zn rfl (zp 2 (v := Vi ((zG l i).fin)) rfl rfl rfl) (xE rfl (bT h4_8) (zn rfl (zIM rfl rfl) ?_)))))
    exact zFp rfl
   refine zn rfl (zJ) (zDw (q := ((!(zG dn i)) = true) ∧ (0 ≤ ((zG l i).fin))) 11 13 [41, 40, 39, 38, 37, 36, 35, 34, 33, 32, 31] (((zG l i).fin) < ((zG l ((k).toNat)).beg)) rfl rfl rfl rfl rfl rfl trivial rfl (fun h4_13 => ?_) (fun g4_25 => ?_))
   ·
    refine xE rfl (gT h4_13) (zn rfl (zk (o := 12) rfl) (xE rfl (gT h4_13) (zn rfl (zp 2 (v := Vi ((zG l i).fin)) rfl rfl rfl) (xE rfl (gT h4_13) (zn rfl (zJ) (xE rfl (gT h4_13) (zn rfl (zr rfl) (xE rfl (gT h4_13) (zn rfl (zk (o := 1) rfl) (xE rfl (gT h4_13) (zn rfl (zp 0 (v := v) rfl rfl rfl) (xE rfl (gT h4_13) ?_))))))))))))
    refine zn rfl (zJ) (xE rfl (gT h4_13) (zn rfl (z7 (pR hv) 21 ((k).toNat) rfl rfl (by omega) (by omega)) (xE rfl (gT h4_13) (zn rfl (zk (o := 11) rfl) (xE rfl (gT h4_13) (zn rfl (yQ (pR hv) 21 ((k).toNat) 11 (off := yw v + ((k).toNat) * 21 + 11) (fun _ => rfl) rfl (by omega) (by omega) rfl) (xE rfl (gT h4_13) (zn rfl (zEL rfl rfl) ?_))))))))
    exact zFp rfl
   refine zC4 (zU rfl (fun c2 => ?_) (fun c2 => ?_))
   ·
    refine zB (zH rfl (zA ?_))
    exact zR (z3 (v := .bool true) rfl rfl (fun w' hw => ⟨(by congr 1; exact (decide_eq_true (⟨i, by omega, notFi.1 c2.1.1, c2.1.2, c2.2⟩ : kM l dn (zG l k.toNat))).symm), hw.sel [0, 1] rfl (by decide)⟩))
   ·
    refine zL (zg (zw rfl rfl (zt (by omega)) rfl (zC rfl ?_)))
    exact zf (fun w' hw => ⟨i + 1, ⟨rfl, rfl, rfl, rfl, rfl, trivial⟩, ⟨by omega, zDj hE (fun q => c2 ⟨⟨notFi.2 q.1.1, q.1.2⟩, q.2⟩)⟩, hw.sel [0, 1] rfl (by decide), (by omega)⟩)
  ·
   refine yA rfl (zB (zH rfl (zA ?_)))
   exact zR (z3 (v := .bool false) rfl rfl (fun w' hw => ⟨(by congr 1; exact (decide_eq_false (fun q : kM l dn (zG l k.toNat) => hE (by have e : i = l.length := (by omega); rw [e]; exact q))).symm), hw⟩))
theorem zEM {S : List Nat} (o b : Nat) (v dv : Value) (l : List CallD) (dn : List Bool) (w : World) (hl : l.length ≤ 10000000) (hd : dn.length = l.length) (hin : Own w S [Res.row o 52 [.pointer (some ⟨b, 0, none⟩), v, dv], Res.vec 4 1 dv dn.length (dn.flatMap B1)] w) (hv : Rd w S (Res.sl v l.length (l.flatMap CallD.cells))) : Rets Try.prog 10 #[.pointer (some ⟨o, 0, none⟩)] w fun u_ w' => u_ = .bool (decide (Whole l dn)) ∧ Own w S [Res.row o 52 [.pointer (some ⟨b, 0, none⟩), v, dv], Res.vec 4 1 dv dn.length (dn.flatMap B1)] w' := by
  refine zh Try.func10 rfl Try.ntmps10 hin ?_
  refine zB (zH rfl (zA (zM (zB (zC rfl (yB rfl rfl (zW (o := 1) rfl rfl (zd 0 (v := v) rfl rfl rfl rfl (yL (pR hv) rfl rfl (zC rfl (zA (zS ?_))))))))))))
  refine xL (fun (i : Nat) => [(0, .pointer (some ⟨o, 0, none⟩)), (8, v), (9, Vj l.length), (10, Vj i)]) (fun (i : Nat) => i ≤ l.length ∧ zCg l dn i) (fun (i : Nat) => [Res.row o 52 [.pointer (some ⟨b, 0, none⟩), v, dv], Res.vec 4 1 dv dn.length (dn.flatMap B1)]) (fun (i : Nat) => l.length - i) (fun w' hw => ⟨0, ⟨rfl, rfl, rfl, rfl, trivial⟩, ⟨Nat.zero_le _, fun j hj => absurd hj (Nat.not_lt_zero j)⟩, hw⟩) (fun i g hΦ => ?_)
  have hi := hΦ.1
  have hE := hΦ.2
  refine zB (yO rfl rfl rfl (zA (zM (zU rfl (fun c1 => ?_) (fun c1 => ?_)))))
  ·
   refine zL (zM (zS (zB (zC rfl (zD (pR hv) 21 i rfl rfl rfl (by omega) rfl (zAN (pR hv) 21 i (off := yw v + i * 21) (fun _ => rfl) rfl rfl (by omega) rfl (yP (v := .agg #[Vi 0, .bool false, .bool false, Vn 0, Vn 0, Vi 0, .string (⟨#[]⟩ : ByteArray), Vi 0, Vi 0, Vn 0, .string (⟨#[]⟩ : ByteArray), Vi 0, Vi 0, Vn 0, Vn 0, Vi 0, Vn 0, Vi 0, Vi 0, Vi 0, Vi 0]) (by kernel_rfl) rfl (fun b4 => zH rfl (zu 2 rfl rfl rfl (yC rfl) rfl (zA (zB (zW (o := 12) rfl rfl ?_))))))))))))
   refine zd 2 (v := Vi ((zG l i).fin)) rfl rfl rfl rfl (yY rfl rfl rfl (zC rfl (yZ (q := 0 ≤ ((zG l i).fin)) 8 3 [26, 25, 24, 23, 22, 21, 20, 19] ((!(zG dn i)) = true) rfl rfl rfl rfl rfl rfl trivial rfl (fun h4_3 => ?_) (fun g4_12 => ?_))))
   ·
    refine zV rfl (gT h4_3) (zC rfl (zV rfl (gT h4_3) (yB rfl rfl (zV rfl (gT h4_3) (zW (o := 2) rfl rfl (zV rfl (gT h4_3) (zd 0 (v := dv) rfl rfl rfl rfl (zV rfl (gT h4_3) (zC rfl (zV rfl (gT h4_3) (zD (pV 1 rfl) 1 i rfl rfl rfl (by omega) rfl (zV rfl (gT h4_3) ?_))))))))))))
    refine zN (pV 1 rfl) 1 i 0 (fun _ => rfl) rfl rfl (by omega) rfl rfl (zV rfl (gT h4_3) (ja (b := (zG dn i)) rfl rfl ?_))
    exact yi (xO _) (fun _ hw => hw)
   refine zA (zU rfl (fun c2 => ?_) (fun c2 => ?_))
   ·
    refine zB (zH rfl (zA ?_))
    exact zR (z3 (v := .bool false) rfl rfl (fun w' hw => ⟨(by congr 1; exact (decide_eq_false (fun q : Whole l dn => by have := q i (by omega) c2.1; have := notFi.1 c2.2; simp_all)).symm), hw.sel [0, 1] rfl (by decide)⟩))
   ·
    refine zL (zg (zw rfl rfl (zt (by omega)) rfl (zC rfl ?_)))
    exact zf (fun w' hw => ⟨i + 1, ⟨rfl, rfl, rfl, rfl, trivial⟩, ⟨by omega, zEC hE (fun q => c2 ⟨q.1, notFi.2 q.2⟩)⟩, hw.sel [0, 1] rfl (by decide), (by omega)⟩)
  ·
   refine yA rfl (zB (zH rfl (zA ?_)))
   exact zR (z3 (v := .bool true) rfl rfl (fun w' hw => ⟨(by congr 1; exact (decide_eq_true (show Whole l dn by have e : i = l.length := (by omega); rw [e] at hE; exact hE)).symm), hw⟩))
theorem zHv {S : List Nat} (o : Nat) (v dv : Value) (l : List CallD) (dn : List Bool) (b tb cb bm lm rm idx : Nat) (now : Int) (cnt : Nat) (kb : List (ByteArray × Int)) (kl : List (Nat × LeaD)) (kr : List (Nat × RepD)) (t : RL) (c : CallD) (w : World) (hT : LT idx now cnt kb kl kr t) (hcw : c.wf) (hn : t.cnt < 1000000000) (hin : Own w S [Res.row o 52 [.pointer (some ⟨b, 0, none⟩), v, dv], Res.vec 4 1 dv dn.length (dn.flatMap B1), Res.row b 60 [.pointer (some ⟨tb, 0, none⟩), .pointer (some ⟨cb, 0, none⟩), Vn idx], Res.row tb 71 [.map (some bm), .map (some lm), Vi now, Vn cnt], Res.mp Value.string z6 bm kb, Res.mp zz za lm kl, Res.row cb 89 [.map (some rm)], Res.mp yM zq rm kr] w) (hv : Rd w S (Res.sl v l.length (l.flatMap CallD.cells))) : Rets Try.prog 16 #[.pointer (some ⟨o, 0, none⟩), .agg (CallD.cells c).toArray] w fun u_ w' => ∃ (now' : Int) (cnt' : Nat) (kb' : List (ByteArray × Int)) (kl' : List (Nat × LeaD)) (kr' : List (Nat × RepD)), u_ = .bool ((yy t c).1) ∧ LT idx now' cnt' kb' kl' kr' (yy t c).2 ∧ Own w S [Res.row o 52 [.pointer (some ⟨b, 0, none⟩), v, dv], Res.vec 4 1 dv dn.length (dn.flatMap B1), Res.row b 60 [.pointer (some ⟨tb, 0, none⟩), .pointer (some ⟨cb, 0, none⟩), Vn idx], Res.row tb 71 [.map (some bm), .map (some lm), Vi now', Vn cnt'], Res.mp Value.string z6 bm kb', Res.mp zz za lm kl', Res.row cb 89 [.map (some rm)], Res.mp yM zq rm kr'] w' := by
  refine zh Try.func16 rfl Try.ntmps16 hin ?_
  refine zB (yh rfl rfl (fun b3 => zH rfl (zA (zM (zB (zW (o := 1) rfl rfl (zd 8 (v := .bool c.look) rfl rfl rfl rfl (zA (j8 rfl (fun c1 => ?_) (fun c1 => ?_))))))))))
  ·
   refine zM (zX [0, 1, 6, 7, 8] rfl (by decide) (by kernel_rfl) (fun w' hw hS => zE 0 rfl (zJ) hS (zE 1 rfl (zr rfl) hS (zE 2 rfl (zk (o := 0) rfl) hS (zE 3 rfl (zp 0 (v := .pointer (some ⟨b, 0, none⟩)) rfl rfl rfl) hS (zE 4 rfl (zk (o := 10) rfl) hS (zE 5 rfl (zp 4 (v := .string c.key) rfl rfl rfl) hS (zZ 6 rfl hw (zQ rfl rfl (fun w' hw => (zHw b tb cb bm lm idx now cnt kb kl c.key w' (hw.give [2, 3, 4, 5] rfl (by decide))).mono ?_))))))))))
   rintro _ w1 ⟨n1_, rfl, hf2_6, hO⟩
   refine (?_ : CL _ _ _ _ _ _ (Own w S [Res.row o 52 [.pointer (some ⟨b, 0, none⟩), v, dv], Res.vec 4 1 dv dn.length (dn.flatMap B1), Res.row cb 89 [.map (some rm)], Res.mp yM zq rm kr, Res.row b3 34 (CallD.cells c), Res.row b 60 [.pointer (some ⟨tb, 0, none⟩), .pointer (some ⟨cb, 0, none⟩), Vn idx], Res.row tb 71 [.map (some bm), .map (some lm), Vi now, Vn cnt], Res.mp Value.string z6 bm kb, Res.mp zz za lm kl])) w1 (hw.frameL [2, 3, 4, 5] rfl hO)
   refine zF [0, 1, 2, 3, 4] rfl (by decide) (fun w' hw hS => zE 7 rfl (zJ) hS (zE 8 rfl (yp (vs := [Vi ((zY c.key kb).getD 0), Vi n1_]) rfl rfl) hS (zE 9 rfl (yp (vs := [Vi ((zY c.key kb).getD 0), Vi n1_]) rfl rfl) hS (zE 10 rfl (xW) hS (zE 11 rfl (xW) hS (zK ?_))))))
   refine (?_ : C _ _ _ _ _ _ _ (Own w S [Res.row o 52 [.pointer (some ⟨b, 0, none⟩), v, dv], Res.vec 4 1 dv dn.length (dn.flatMap B1), Res.row cb 89 [.map (some rm)], Res.mp yM zq rm kr, Res.row b3 34 (CallD.cells c), Res.row b 60 [.pointer (some ⟨tb, 0, none⟩), .pointer (some ⟨cb, 0, none⟩), Vn idx], Res.row tb 71 [.map (some bm), .map (some lm), Vi now, Vn cnt], Res.mp Value.string z6 bm kb, Res.mp zz za lm kl])) _ hw
   refine zB (zW (o := 12) rfl rfl (zd 4 (v := Vi c.fin) rfl rfl rfl rfl (yO rfl rfl rfl (zC rfl (xJ (q := c.fin < 0) 10 3 [34, 33, 32, 31, 30, 29, 28, 27, 26, 25] ((c.cap = ((zY c.key kb).getD 0)) ∧ (c.lent = n1_)) rfl rfl rfl rfl rfl rfl trivial rfl (fun h3_3 => ?_) (fun g3_14 => ?_))))))
   ·
    refine zV rfl (gF h3_3) (zW (o := 19) rfl rfl (zV rfl (gF h3_3) (zd 4 (v := Vi c.cap) rfl rfl rfl rfl (zV rfl (gF h3_3) (zC rfl (zV rfl (gF h3_3) (yr rfl rfl rfl (zV rfl (gF h3_3) (zC rfl (yZ (q := c.cap = ((zY c.key kb).getD 0)) 4 8 [33, 32, 31, 30] (c.lent = n1_) rfl rfl rfl rfl rfl rfl ⟨_, rfl, rfl, gF h3_3⟩ rfl (fun h3_8 => ?_) (fun g3_13 => ?_)))))))))))
    ·
     refine zV rfl (gT h3_8) (zW (o := 20) rfl rfl (zV rfl (gT h3_8) (zd 4 (v := Vi c.lent) rfl rfl rfl rfl (zV rfl (gT h3_8) (zC rfl (zV rfl (gT h3_8) (yr rfl rfl rfl ?_)))))))
     exact yi rfl (fun _ hw => hw)
    exact yi rfl (fun _ hw => hw)
   refine zH rfl (zA ?_)
   exact zR (z3 (v := .bool (decide ((c.fin < 0) ∨ ((c.cap = ((zY c.key kb).getD 0)) ∧ (c.lent = n1_))))) rfl rfl (fun w' hw => ⟨now, cnt, kb, kl, kr, (by congr 1; exact (zB0 hT c1 hf2_6).1), by rw [(zB0 hT c1 hf2_6).2]; exact hT, hw.sel [0, 1, 5, 6, 7, 8, 2, 3] rfl (by decide)⟩))
  ·
   refine zL (zM (zX [0, 1, 8] rfl (by decide) (by kernel_rfl) (fun w' hw hS => zE 0 rfl (zJ) hS (zE 1 rfl (zr rfl) hS (zE 2 rfl (zk (o := 0) rfl) hS (zE 3 rfl (zp 0 (v := .pointer (some ⟨b, 0, none⟩)) rfl rfl rfl) hS (zE 4 rfl (zk (o := 3) rfl) hS (zE 5 rfl (zGh 2 (CmdD.cells c.cmd) rfl rfl (zAJ 3 rfl) (by kernel_rfl)) hS (zT 6 10 ?_ ?_)))))))))
   ·
    refine zP 6 rfl hw (zQ rfl rfl (fun w' hw => (zIX b tb cb bm lm rm idx now cnt kb kl kr c.cmd w' hcw.cmd (LSt.ht hT) (by rw [LSt.c hT]; omega) (LSt.lent1 hT _) (LSt.kl0 hT (by omega)) (hw.give [2, 3, 4, 5, 6, 7] rfl (by decide))).mono ?_))
    rintro _ w1 ⟨r2_, did3_, cnt'4_, kb'5_, kl'6_, kr'7_, rfl, hf4_6, hO⟩
    have hdo := hT.do hcw.cmd hn hf4_6
    have htc := zCp (c := c) (by rw [c1]; decide) hdo.1.1
    refine (?_ : CL _ _ _ _ _ _ (Own w S [Res.row o 52 [.pointer (some ⟨b, 0, none⟩), v, dv], Res.vec 4 1 dv dn.length (dn.flatMap B1), Res.row b3 34 (CallD.cells c), Res.row b 60 [.pointer (some ⟨tb, 0, none⟩), .pointer (some ⟨cb, 0, none⟩), Vn idx], Res.row tb 71 [.map (some bm), .map (some lm), Vi now, Vn cnt'4_], Res.mp Value.string z6 bm kb'5_, Res.mp zz za lm kl'6_, Res.row cb 89 [.map (some rm)], Res.mp yM zq rm kr'7_])) w1 (hw.frameL [2, 3, 4, 5, 6, 7] rfl hO)
    refine zF [0, 1, 2] rfl (by decide) (fun w' hw hS => zE 7 rfl (zJ) hS (zE 8 rfl (yp (vs := [.agg (RepD.cells r2_).toArray, .bool did3_]) rfl rfl) hS (zE 9 rfl (yp (vs := [.agg (RepD.cells r2_).toArray, .bool did3_]) rfl rfl) hS (zZ 10 rfl hw (yP (v := .agg #[Vn 0, Vn 0, Vi 0, Vn 0, Vi 0, Vi 0]) (by kernel_rfl) rfl (fun b7 => zF [0, 1, 2] rfl (by decide) (fun w' hw hS => zZ 11 rfl hw (zu 9 rfl rfl rfl (yC rfl) rfl (zF [0, 1, 2] rfl (by decide) (fun w' hw hS => zE 12 rfl (xW) hS (zK ?_)))))))))))
    refine (?_ : C _ _ _ _ _ _ _ (Own w S [Res.row o 52 [.pointer (some ⟨b, 0, none⟩), v, dv], Res.vec 4 1 dv dn.length (dn.flatMap B1), Res.row b3 34 (CallD.cells c), Res.row b 60 [.pointer (some ⟨tb, 0, none⟩), .pointer (some ⟨cb, 0, none⟩), Vn idx], Res.row tb 71 [.map (some bm), .map (some lm), Vi now, Vn cnt'4_], Res.mp Value.string z6 bm kb'5_, Res.mp zz za lm kl'6_, Res.row cb 89 [.map (some rm)], Res.mp yM zq rm kr'7_, Res.row b7 32 (RepD.cells r2_)])) _ hw
    refine zB (zW (o := 12) rfl rfl (zd 2 (v := Vi c.fin) rfl rfl rfl rfl (yO rfl rfl rfl (zC rfl (xJ (q := c.fin < 0) 4 3 [53, 52, 51, 50] (r2_ = c.reply) rfl rfl rfl rfl rfl rfl trivial rfl (fun h5_3 => ?_) (fun g5_8 => ?_))))))
    ·
     refine zV rfl (gF h5_3) (yk (cs := (RepD.cells r2_)) 9 rfl rfl rfl (zV rfl (gF h5_3) (zW (o := 13) rfl rfl (zV rfl (gF h5_3) (zCM 2 (RepD.cells c.reply) rfl rfl (zAJ 13 rfl) (by kernel_rfl) rfl (zV rfl (gF h5_3) (z5 rfl (zFd (zGr r2_ c.reply) (by kernel_rfl) (by kernel_rfl) rfl rfl rfl rfl) ?_)))))))
     exact yi rfl (fun _ hw => hw)
    refine zH rfl (zA ?_)
    exact zR (z3 (v := .bool (decide ((c.fin < 0) ∨ (r2_ = c.reply)))) rfl rfl (fun w' hw => ⟨now, cnt'4_, kb'5_, kl'6_, kr'7_, (by congr 1; exact htc.1), by rw [htc.2]; exact hdo.2.1, hw.sel [0, 1, 3, 4, 5, 6, 7, 8] rfl (by decide)⟩))
   ·
    refine zP 10 rfl hw (yP (v := .agg #[Vn 0, Vn 0, Vi 0, Vn 0, Vi 0, Vi 0]) (by kernel_rfl) rfl (fun b7 => zF [0, 1, 8] rfl (by decide) (fun w' hw hS => zZ 6 rfl hw (zQ rfl rfl (fun w' hw => (zIX b tb cb bm lm rm idx now cnt kb kl kr c.cmd w' hcw.cmd (LSt.ht hT) (by rw [LSt.c hT]; omega) (LSt.lent1 hT _) (LSt.kl0 hT (by omega)) (hw.give [2, 3, 4, 5, 6, 7] rfl (by decide))).mono ?_)))))
    rintro _ w1 ⟨r8_, did9_, cnt'10_, kb'11_, kl'12_, kr'13_, rfl, hf4_6, hO⟩
    have hdo := hT.do hcw.cmd hn hf4_6
    have htc := zCp (c := c) (by rw [c1]; decide) hdo.1.1
    refine (?_ : CL _ _ _ _ _ _ (Own w S [Res.row o 52 [.pointer (some ⟨b, 0, none⟩), v, dv], Res.vec 4 1 dv dn.length (dn.flatMap B1), Res.row b3 34 (CallD.cells c), Res.row b7 32 [Vn 0, Vn 0, Vi 0, Vn 0, Vi 0, Vi 0], Res.row b 60 [.pointer (some ⟨tb, 0, none⟩), .pointer (some ⟨cb, 0, none⟩), Vn idx], Res.row tb 71 [.map (some bm), .map (some lm), Vi now, Vn cnt'10_], Res.mp Value.string z6 bm kb'11_, Res.mp zz za lm kl'12_, Res.row cb 89 [.map (some rm)], Res.mp yM zq rm kr'13_])) w1 (hw.frameL [2, 3, 4, 5, 6, 7] rfl hO)
    refine zF [0, 1, 2] rfl (by decide) (fun w' hw hS => zE 7 rfl (zJ) hS (zE 8 rfl (yp (vs := [.agg (RepD.cells r8_).toArray, .bool did9_]) rfl rfl) hS (zE 9 rfl (yp (vs := [.agg (RepD.cells r8_).toArray, .bool did9_]) rfl rfl) hS (zZ 11 rfl hw (zu 3 rfl rfl rfl (yC rfl) rfl (zF [0, 1, 2] rfl (by decide) (fun w' hw hS => zE 12 rfl (xW) hS (zK ?_))))))))
    refine (?_ : C _ _ _ _ _ _ _ (Own w S [Res.row o 52 [.pointer (some ⟨b, 0, none⟩), v, dv], Res.vec 4 1 dv dn.length (dn.flatMap B1), Res.row b3 34 (CallD.cells c), Res.row b7 32 (RepD.cells r8_), Res.row b 60 [.pointer (some ⟨tb, 0, none⟩), .pointer (some ⟨cb, 0, none⟩), Vn idx], Res.row tb 71 [.map (some bm), .map (some lm), Vi now, Vn cnt'10_], Res.mp Value.string z6 bm kb'11_, Res.mp zz za lm kl'12_, Res.row cb 89 [.map (some rm)], Res.mp yM zq rm kr'13_])) _ hw
    refine zB (zW (o := 12) rfl rfl (zd 2 (v := Vi c.fin) rfl rfl rfl rfl (yO rfl rfl rfl (zC rfl (xJ (q := c.fin < 0) 4 3 [53, 52, 51, 50] (r8_ = c.reply) rfl rfl rfl rfl rfl rfl trivial rfl (fun h5_3 => ?_) (fun g5_8 => ?_))))))
    ·
     refine zV rfl (gF h5_3) (yk (cs := (RepD.cells r8_)) 3 rfl rfl rfl (zV rfl (gF h5_3) (zW (o := 13) rfl rfl (zV rfl (gF h5_3) (zCM 2 (RepD.cells c.reply) rfl rfl (zAJ 13 rfl) (by kernel_rfl) rfl (zV rfl (gF h5_3) (z5 rfl (zFd (zGr r8_ c.reply) (by kernel_rfl) (by kernel_rfl) rfl rfl rfl rfl) ?_)))))))
     exact yi rfl (fun _ hw => hw)
    refine zH rfl (zA ?_)
    exact zR (z3 (v := .bool (decide ((c.fin < 0) ∨ (r8_ = c.reply)))) rfl rfl (fun w' hw => ⟨now, cnt'10_, kb'11_, kl'12_, kr'13_, (by congr 1; exact htc.1), by rw [htc.2]; exact hdo.2.1, hw.sel [0, 1, 4, 5, 6, 7, 8, 9] rfl (by decide)⟩))
theorem zFX {S : List Nat} (o : Nat) (v dv : Value) (l : List CallD) (dn : List Bool) (b tb cb bm lm rm idx : Nat) (now : Int) (cnt : Nat) (kb : List (ByteArray × Int)) (kl : List (Nat × LeaD)) (kr : List (Nat × RepD)) (t : RL) (m : MovD) (w : World) (hT : LT idx now cnt kb kl kr t) (hcw : ∀ c ∈ l, c.wf) (hn : t.cnt < 1000000000) (hl : l.length ≤ 10000000) (hd : dn.length = l.length) (hmd : ye m.delta) (hin : Own w S [Res.row o 52 [.pointer (some ⟨b, 0, none⟩), v, dv], Res.vec 4 1 dv dn.length (dn.flatMap B1), Res.row b 60 [.pointer (some ⟨tb, 0, none⟩), .pointer (some ⟨cb, 0, none⟩), Vn idx], Res.row tb 71 [.map (some bm), .map (some lm), Vi now, Vn cnt], Res.mp Value.string z6 bm kb, Res.mp zz za lm kl, Res.row cb 89 [.map (some rm)], Res.mp yM zq rm kr] w) (hv : Rd w S (Res.sl v l.length (l.flatMap CallD.cells))) : Rets Try.prog 9 #[.pointer (some ⟨o, 0, none⟩), .agg (MovD.cells m).toArray] w fun u_ w' => ∃ (dn' : List Bool) (now' : Int) (cnt' : Nat) (kb' : List (ByteArray × Int)) (kl' : List (Nat × LeaD)) (kr' : List (Nat × RepD)), u_ = Vi ((zo l ⟨t, dn⟩ m).1) ∧ ((zo l ⟨t, dn⟩ m).1 = 0 → dn' = (zo l ⟨t, dn⟩ m).2.done ∧ LT idx now' cnt' kb' kl' kr' (zo l ⟨t, dn⟩ m).2.t) ∧ Own w S [Res.row o 52 [.pointer (some ⟨b, 0, none⟩), v, dv], Res.vec 4 1 dv dn'.length (dn'.flatMap B1), Res.row b 60 [.pointer (some ⟨tb, 0, none⟩), .pointer (some ⟨cb, 0, none⟩), Vn idx], Res.row tb 71 [.map (some bm), .map (some lm), Vi now', Vn cnt'], Res.mp Value.string z6 bm kb', Res.mp zz za lm kl', Res.row cb 89 [.map (some rm)], Res.mp yM zq rm kr'] w' := by
  have htm := LSt.ht hT
  refine zh Try.func9 rfl Try.ntmps9 hin ?_
  refine zB (yh rfl rfl (fun b3 => zH rfl (zA (zM (ku (by kernel_rfl) (by kernel_rfl) (zn rfl (zk (o := 0) rfl) (zn rfl (zp 8 (v := Vi m.call) rfl rfl rfl) (zn rfl (zJ) (zn rfl (zr rfl) (zn rfl (zk (o := 1) rfl) (zn rfl (zp 0 (v := v) rfl rfl rfl) (zn rfl (zFn (pR hv) rfl) ?_))))))))))))
  refine zn rfl (zIM rfl rfl) (zn rfl (zJ) (zIV (q := ((l.length : Nat) : Int) ≤ m.call) 3 8 [18, 17, 16] (m.delta < 0) rfl rfl rfl rfl rfl rfl trivial rfl (fun h1_8 => ?_) (fun g1_12 => ?_)))
  ·
   refine xE rfl (gF h1_8) (zn rfl (zk (o := 1) rfl) (xE rfl (gF h1_8) (zn rfl (zp 8 (v := Vi m.delta) rfl rfl rfl) (xE rfl (gF h1_8) (zn rfl (zEL rfl rfl) ?_)))))
   exact zFp rfl
  refine zn rfl (zJ) (zIV (q := (((l.length : Nat) : Int) ≤ m.call) ∨ (m.delta < 0)) 3 13 [23, 22, 21] (1099511627776 < m.delta) rfl rfl rfl rfl rfl rfl trivial rfl (fun h1_13 => ?_) (fun g1_17 => ?_))
  ·
   refine xE rfl (gF h1_13) (zn rfl (zk (o := 1) rfl) (xE rfl (gF h1_13) (zn rfl (zp 8 (v := Vi m.delta) rfl rfl rfl) (xE rfl (gF h1_13) (zn rfl (zDT rfl rfl) ?_)))))
   exact zFp rfl
  refine zC4 (zU rfl (fun c1 => ?_) (fun c1 => ?_))
  ·
   refine zB (zH rfl (zA ?_))
   exact zR (z3 (v := Vi 1) rfl rfl (fun w' hw => ⟨dn, now, cnt, kb, kl, kr, (zDR (mv1 c1)), zFH (mv1 c1) (by decide), hw.sel [0, 1, 2, 3, 4, 5, 6, 7] rfl (by decide)⟩))
  ·
   refine zL (zM (zB (zW (o := 0) rfl rfl (zd 8 (v := Vi m.call) rfl rfl rfl rfl (yY rfl rfl rfl (zA (zU rfl (fun c2 => ?_) (fun c2 => ?_))))))))
   ·
    have hcl : m.call.toNat < l.length := by omega
    have hcd : m.call.toNat < dn.length := by omega
    refine zS (ku (by kernel_rfl) (by kernel_rfl) (zn rfl (zJ) (zn rfl (zr rfl) (zn rfl (zk (o := 2) rfl) (zn rfl (zp 0 (v := dv) rfl rfl rfl) (zn rfl (zk (o := 0) rfl) (zn rfl (zp 8 (v := Vi m.call) rfl rfl rfl) (zn rfl (z7 (pV 1 rfl) 1 ((m.call).toNat) rfl rfl (by omega) (by omega)) (zn rfl (yQ (pV 1 rfl) 1 ((m.call).toNat) 0 (fun _ => rfl) rfl rfl (by omega) rfl) (zn rfl (xW) (zC4 (j8 rfl (fun c3 => ?_) (fun c3 => ?_)))))))))))))
    ·
     refine zB (zH rfl (zA ?_))
     exact zR (z3 (v := Vi 9) rfl rfl (fun w' hw => ⟨dn, now, cnt, kb, kl, kr, (zDR (mv9 c1 c2 c3)), zFH (mv9 c1 c2 c3) (by decide), hw.sel [0, 1, 2, 3, 4, 5, 6, 7] rfl (by decide)⟩))
    ·
     refine zB (zC rfl (zW (o := 0) rfl rfl (zd 8 (v := Vi m.call) rfl rfl rfl rfl (zQ rfl rfl (fun w' hw => (zHZ o b v dv l dn m.call w' (by first | omega | (simp <;> omega)) (by first | omega | (simp <;> omega)) (by first | omega | (simp <;> omega)) (by first | omega | (simp <;> omega)) (hw.give [0, 1] rfl (by decide)) (hw.rdTo hv [0, 1] rfl)).mono ?_)))))
     rintro _ w1 ⟨rfl, hO⟩
     refine (?_ : CL _ _ _ _ _ _ (Own w S [Res.row b 60 [.pointer (some ⟨tb, 0, none⟩), .pointer (some ⟨cb, 0, none⟩), Vn idx], Res.row tb 71 [.map (some bm), .map (some lm), Vi now, Vn cnt], Res.mp Value.string z6 bm kb, Res.mp zz za lm kl, Res.row cb 89 [.map (some rm)], Res.mp yM zq rm kr, Res.row b3 38 (MovD.cells m), Res.row o 52 [.pointer (some ⟨b, 0, none⟩), v, dv], Res.vec 4 1 dv dn.length (dn.flatMap B1)])) w1 (hw.frameL [0, 1] rfl hO)
     refine zH rfl (zA (zU rfl (fun c4 => ?_) (fun c4 => ?_)))
     ·
      refine zB (zH rfl (zA ?_))
      exact zR (z3 (v := Vi 20) rfl rfl (fun w' hw => ⟨dn, now, cnt, kb, kl, kr, (zDR (zKZ c1 c2 c3 c4)), zFH (zKZ c1 c2 c3 c4) (by decide), hw.sel [7, 8, 0, 1, 2, 3, 4, 5] rfl (by decide)⟩))
     ·
      have hce : zG dn m.call.toNat = false ∧ ¬ kM l dn (zG l m.call.toNat) := ⟨c3, c4⟩
      refine zL (zM (zM (zX [0, 2, 4, 5, 6, 7, 8] rfl (by decide) (by kernel_rfl) (fun w' hw hS => zE 0 rfl (zJ) hS (zE 1 rfl (zr rfl) hS (zE 2 rfl (zk (o := 0) rfl) hS (zE 3 rfl (zp 5 (v := .pointer (some ⟨b, 0, none⟩)) rfl rfl rfl) hS (zE 4 rfl (zr rfl) hS (zE 5 rfl (zk (o := 0) rfl) hS (zE 6 rfl (zp 0 (v := .pointer (some ⟨tb, 0, none⟩)) rfl rfl rfl) hS (zE 7 rfl (zk (o := 1) rfl) hS (zE 8 rfl (zp 4 (v := Vi m.delta) rfl rfl rfl) hS ?_))))))))))))
      refine zZ 9 rfl hw (zQ rfl rfl (fun w' hw => (zG2 tb bm lm now cnt kl m.delta w' (by first | omega | (simp <;> omega)) ‹_› (LSt.nd hT) (LSt.len hT) (hw.give [1, 3] rfl (by decide))).mono ?_))
      rintro _ w1 ⟨gv1_, gs2_, e3_, now'4_, kl'5_, rfl, hf8_9, hf8_9_1, hf8_9_2, hf8_9_3, hf8_9_4, hO⟩
      have hTp := hT.pass hmd hf8_9_1 hf8_9_2
      have hpe := hf8_9
      have hne : ∀ q : yV now m.delta ≠ 0, yV t.now m.delta ≠ 0 := fun q => by rw [← LSt.n hT]; exact q
      refine (?_ : CL _ _ _ _ _ _ (Own w S [Res.row b 60 [.pointer (some ⟨tb, 0, none⟩), .pointer (some ⟨cb, 0, none⟩), Vn idx], Res.mp Value.string z6 bm kb, Res.row cb 89 [.map (some rm)], Res.mp yM zq rm kr, Res.row b3 38 (MovD.cells m), Res.row o 52 [.pointer (some ⟨b, 0, none⟩), v, dv], Res.vec 4 1 dv dn.length (dn.flatMap B1), Res.row tb 71 [.map (some bm), .map (some lm), Vi now'4_, Vn cnt], Res.mp zz za lm kl'5_, Res.vec 28 1 gv1_ gs2_.length (gs2_.flatMap U1)])) w1 (hw.frameL [1, 3] rfl hO)
      refine zF [0, 1, 2, 3, 4, 5, 6] rfl (by decide) (fun w' hw hS => zE 10 rfl (zJ) hS (zE 11 rfl (yp (vs := [gv1_, Vi e3_]) rfl rfl) hS (zE 12 rfl (yp (vs := [gv1_, Vi e3_]) rfl rfl) hS (zE 13 rfl (xW) hS (zE 14 rfl (xW) hS (zK ?_))))))
      refine (?_ : C _ _ _ _ _ _ _ (Own w S [Res.row b 60 [.pointer (some ⟨tb, 0, none⟩), .pointer (some ⟨cb, 0, none⟩), Vn idx], Res.mp Value.string z6 bm kb, Res.row cb 89 [.map (some rm)], Res.mp yM zq rm kr, Res.row b3 38 (MovD.cells m), Res.row o 52 [.pointer (some ⟨b, 0, none⟩), v, dv], Res.vec 4 1 dv dn.length (dn.flatMap B1), Res.row tb 71 [.map (some bm), .map (some lm), Vi now'4_, Vn cnt], Res.mp zz za lm kl'5_, Res.vec 28 1 gv1_ gs2_.length (gs2_.flatMap U1)])) _ hw
      refine zB (zC rfl (jW rfl rfl rfl (zA (zU rfl (fun c5 => ?_) (fun c5 => ?_)))))
      ·
       refine zB (zC rfl (zH rfl (zA ?_)))
       exact zR (z3 (v := Vi e3_) rfl rfl (fun w' hw => ⟨dn, now'4_, cnt, kb, kl'5_, kr, (by rw [hpe, LSt.n hT]; exact zDR (mvE c1 (fun _ => hce) (hne (by rw [← hpe]; exact c5)))), zFH (mvE c1 (fun _ => hce) (hne (by rw [← hpe]; exact c5))) (hne (by rw [← hpe]; exact c5)), hw.sel [5, 6, 0, 7, 1, 8, 2, 3] rfl (by decide)⟩))
      ·
       have hok : ¬ yV t.now m.delta ≠ 0 := by rw [← LSt.n hT, ← hpe]; exact c5
       refine zL (zM (zB (zW (o := 0) rfl rfl (zd 4 (v := Vi m.call) rfl rfl rfl rfl (yY rfl rfl rfl (zA (zJE rfl c2 (zM (zX [0, 1, 2, 3, 4, 5, 7, 8, 9] rfl (by decide) (by kernel_rfl) (fun w' hw hS => zE 0 rfl (zJ) hS (zE 1 rfl (zr rfl) hS (zE 2 rfl (zk (o := 2) rfl) hS ?_))))))))))))
       refine zE 3 rfl (zp 5 (v := dv) rfl rfl rfl) hS (zE 4 rfl (zk (o := 0) rfl) hS (zE 5 rfl (zp 4 (v := Vi m.call) rfl rfl rfl) hS (zZ 6 rfl hw (zD (pV 6 rfl) 1 ((m.call).toNat) rfl rfl (by omega) (by omega) rfl (zF [0, 1, 2, 3, 4, 5, 7, 8, 9] rfl (by decide) (fun w' hw hS => zZ 7 rfl hw (zO 6 ((m.call).toNat) true rfl (fun _ => rfl) rfl (by omega) rfl rfl rfl (by omega) (zF [0, 1, 2, 3, 4, 5, 7, 8, 9] rfl (by decide) (fun w' hw hS => zK ?_)))))))))
       refine (?_ : C _ _ _ _ _ _ _ (Own w S [Res.row b 60 [.pointer (some ⟨tb, 0, none⟩), .pointer (some ⟨cb, 0, none⟩), Vn idx], Res.mp Value.string z6 bm kb, Res.row cb 89 [.map (some rm)], Res.mp yM zq rm kr, Res.row b3 38 (MovD.cells m), Res.row o 52 [.pointer (some ⟨b, 0, none⟩), v, dv], Res.vec 4 1 dv (dn.set ((m.call).toNat) true).length ((dn.set ((m.call).toNat) true).flatMap B1), Res.row tb 71 [.map (some bm), .map (some lm), Vi now'4_, Vn cnt], Res.mp zz za lm kl'5_, Res.vec 28 1 gv1_ gs2_.length (gs2_.flatMap U1)])) _ hw
       refine zM (zX [4, 9] rfl (by decide) (by kernel_rfl) (fun w' hw hS => zE 0 rfl (zJ) hS (zE 1 rfl (zJ) hS (zE 2 rfl (zr rfl) hS (zE 3 rfl (zk (o := 1) rfl) hS (zE 5 rfl (zk (o := 0) rfl) hS (zE 6 rfl (zp 0 (v := Vi m.call) rfl rfl rfl) hS (zZ 4 rfl hw (zd 5 (v := v) rfl rfl rfl rfl (zF [4, 9] rfl (by decide) (fun w' hw hS => zE 7 rfl (z7 (pR hv) 21 ((m.call).toNat) rfl rfl (by omega) (by omega)) hS (zE 8 rfl (zI4 (pR hv) 21 ((m.call).toNat) (off := yw v + ((m.call).toNat) * 21) (fun _ => rfl) rfl rfl (by omega)) hS ?_))))))))))))
       refine zZ 9 rfl hw (zQ rfl rfl (fun w' hw => (zHv o v dv l (dn.set ((m.call).toNat) true) b tb cb bm lm rm idx now'4_ cnt kb kl'5_ kr (xZ t m.delta) (zG l ((m.call).toNat)) w' hTp (hcw _ (yH hcl)) hn (hw.give [5, 6, 0, 7, 1, 8, 2, 3] rfl (by decide)) (hw.rdTo hv [5, 6, 0, 7, 1, 8, 2, 3] rfl)).mono ?_))
       rintro _ w1 ⟨now'6_, cnt'7_, kb'8_, kl'9_, kr'10_, rfl, hf13_9, hO⟩
       refine (?_ : CL _ _ _ _ _ _ (Own w S [Res.row b3 38 (MovD.cells m), Res.vec 28 1 gv1_ gs2_.length (gs2_.flatMap U1), Res.row o 52 [.pointer (some ⟨b, 0, none⟩), v, dv], Res.vec 4 1 dv (dn.set ((m.call).toNat) true).length ((dn.set ((m.call).toNat) true).flatMap B1), Res.row b 60 [.pointer (some ⟨tb, 0, none⟩), .pointer (some ⟨cb, 0, none⟩), Vn idx], Res.row tb 71 [.map (some bm), .map (some lm), Vi now'6_, Vn cnt'7_], Res.mp Value.string z6 bm kb'8_, Res.mp zz za lm kl'9_, Res.row cb 89 [.map (some rm)], Res.mp yM zq rm kr'10_])) w1 (hw.frameL [5, 6, 0, 7, 1, 8, 2, 3] rfl hO)
       refine zF [0, 1] rfl (by decide) (fun w' hw hS => zE 10 rfl (zIZ (b := (yy (xZ t m.delta) (zG l ((m.call).toNat))).1) rfl) hS (zK ?_))
       refine (?_ : C _ _ _ _ _ _ _ (Own w S [Res.row b3 38 (MovD.cells m), Res.vec 28 1 gv1_ gs2_.length (gs2_.flatMap U1), Res.row o 52 [.pointer (some ⟨b, 0, none⟩), v, dv], Res.vec 4 1 dv (dn.set ((m.call).toNat) true).length ((dn.set ((m.call).toNat) true).flatMap B1), Res.row b 60 [.pointer (some ⟨tb, 0, none⟩), .pointer (some ⟨cb, 0, none⟩), Vn idx], Res.row tb 71 [.map (some bm), .map (some lm), Vi now'6_, Vn cnt'7_], Res.mp Value.string z6 bm kb'8_, Res.mp zz za lm kl'9_, Res.row cb 89 [.map (some rm)], Res.mp yM zq rm kr'10_])) _ hw
       refine j8 rfl (fun c7 => ?_) (fun c7 => ?_)
       ·
        refine zB (zH rfl (zA ?_))
        exact zR (z3 (v := Vi 18) rfl rfl (fun w' hw => ⟨dn.set m.call.toNat true, now'6_, cnt'7_, kb'8_, kl'9_, kr'10_, (by have h := mvC (s := ⟨t, dn⟩) c1 c2 hce hok; rw [if_neg (by rw [notFi.1 c7]; decide)] at h; exact zDR h), by have h := mvC (s := ⟨t, dn⟩) c1 c2 hce hok; rw [if_neg (by rw [notFi.1 c7]; decide)] at h; exact zFH h (by decide), hw.sel [2, 3, 4, 5, 6, 7, 8, 9] rfl (by decide)⟩))
       ·
        refine zL (zB (zH rfl (zA ?_)))
        exact zR (z3 (v := Vi 0) rfl rfl (fun w' hw => ⟨dn.set m.call.toNat true, now'6_, cnt'7_, kb'8_, kl'9_, kr'10_, (by have h := mvC (s := ⟨t, dn⟩) c1 c2 hce hok; rw [if_pos (zKs c7)] at h; exact zDR h), by have h := mvC (s := ⟨t, dn⟩) c1 c2 hce hok; intro _; rw [h]; exact ⟨rfl, hf13_9⟩, hw.sel [2, 3, 4, 5, 6, 7, 8, 9] rfl (by decide)⟩))
   ·
    refine zL (zM (zM (zX [0, 1, 2, 4, 6, 7, 8] rfl (by decide) (by kernel_rfl) (fun w' hw hS => zE 0 rfl (zJ) hS (zE 1 rfl (zr rfl) hS (zE 2 rfl (zk (o := 0) rfl) hS (zE 3 rfl (zp 0 (v := .pointer (some ⟨b, 0, none⟩)) rfl rfl rfl) hS (zE 4 rfl (zr rfl) hS (zE 5 rfl (zk (o := 0) rfl) hS (zE 6 rfl (zp 2 (v := .pointer (some ⟨tb, 0, none⟩)) rfl rfl rfl) hS (zE 7 rfl (zk (o := 1) rfl) hS (zE 8 rfl (zp 6 (v := Vi m.delta) rfl rfl rfl) hS ?_))))))))))))
    refine zZ 9 rfl hw (zQ rfl rfl (fun w' hw => (zG2 tb bm lm now cnt kl m.delta w' (by first | omega | (simp <;> omega)) ‹_› (LSt.nd hT) (LSt.len hT) (hw.give [3, 5] rfl (by decide))).mono ?_))
    rintro _ w1 ⟨gv11_, gs12_, e13_, now'14_, kl'15_, rfl, hf8_9, hf8_9_1, hf8_9_2, hf8_9_3, hf8_9_4, hO⟩
    have hTp := hT.pass hmd hf8_9_1 hf8_9_2
    have hpe := hf8_9
    have hne : ∀ q : yV now m.delta ≠ 0, yV t.now m.delta ≠ 0 := fun q => by rw [← LSt.n hT]; exact q
    refine (?_ : CL _ _ _ _ _ _ (Own w S [Res.row o 52 [.pointer (some ⟨b, 0, none⟩), v, dv], Res.vec 4 1 dv dn.length (dn.flatMap B1), Res.row b 60 [.pointer (some ⟨tb, 0, none⟩), .pointer (some ⟨cb, 0, none⟩), Vn idx], Res.mp Value.string z6 bm kb, Res.row cb 89 [.map (some rm)], Res.mp yM zq rm kr, Res.row b3 38 (MovD.cells m), Res.row tb 71 [.map (some bm), .map (some lm), Vi now'14_, Vn cnt], Res.mp zz za lm kl'15_, Res.vec 28 1 gv11_ gs12_.length (gs12_.flatMap U1)])) w1 (hw.frameL [3, 5] rfl hO)
    refine zF [0, 1, 2, 3, 4, 5, 6] rfl (by decide) (fun w' hw hS => zE 10 rfl (zJ) hS (zE 11 rfl (yp (vs := [gv11_, Vi e13_]) rfl rfl) hS (zE 12 rfl (yp (vs := [gv11_, Vi e13_]) rfl rfl) hS (zE 13 rfl (xW) hS (zE 14 rfl (xW) hS (zK ?_))))))
    refine (?_ : C _ _ _ _ _ _ _ (Own w S [Res.row o 52 [.pointer (some ⟨b, 0, none⟩), v, dv], Res.vec 4 1 dv dn.length (dn.flatMap B1), Res.row b 60 [.pointer (some ⟨tb, 0, none⟩), .pointer (some ⟨cb, 0, none⟩), Vn idx], Res.mp Value.string z6 bm kb, Res.row cb 89 [.map (some rm)], Res.mp yM zq rm kr, Res.row b3 38 (MovD.cells m), Res.row tb 71 [.map (some bm), .map (some lm), Vi now'14_, Vn cnt], Res.mp zz za lm kl'15_, Res.vec 28 1 gv11_ gs12_.length (gs12_.flatMap U1)])) _ hw
    refine zB (zC rfl (jW rfl rfl rfl (zA (zU rfl (fun c8 => ?_) (fun c8 => ?_)))))
    ·
     refine zB (zC rfl (zH rfl (zA ?_)))
     exact zR (z3 (v := Vi e13_) rfl rfl (fun w' hw => ⟨dn, now'14_, cnt, kb, kl'15_, kr, (by rw [hpe, LSt.n hT]; exact zDR (mvE c1 (fun q => absurd q c2) (hne (by rw [← hpe]; exact c8)))), zFH (mvE c1 (fun q => absurd q c2) (hne (by rw [← hpe]; exact c8))) (hne (by rw [← hpe]; exact c8)), hw.sel [0, 1, 2, 7, 3, 8, 4, 5] rfl (by decide)⟩))
    ·
     have hok : ¬ yV t.now m.delta ≠ 0 := by rw [← LSt.n hT, ← hpe]; exact c8
     refine zL (zM (zB (zW (o := 0) rfl rfl (zd 6 (v := Vi m.call) rfl rfl rfl rfl (yY rfl rfl rfl (zA (zJZ rfl c2 (zL (zB (zH rfl (zA ?_)))))))))))
     exact zR (z3 (v := Vi 0) rfl rfl (fun w' hw => ⟨dn, now'14_, cnt, kb, kl'15_, kr, (zDR (mvN c1 c2 hok)), by rw [mvN c1 c2 hok]; exact fun _ => ⟨rfl, hTp⟩, hw.sel [0, 1, 2, 7, 3, 8, 4, 5] rfl (by decide)⟩))
end Go.Proofs.Ytcdiehplbmkmeaa
