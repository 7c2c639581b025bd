import Derived.Test.YtcdiehplbmkmeaaGreatLinP
import Derived.Test.YtcdiehplbmkmeaaGreatLedR
import Derived.Test.YtcdiehplbmkmeaaGreatFwZ
set_option linter.unusedSectionVars false
set_option linter.unusedSimpArgs false
set_option linter.unusedVariables false
set_option maxRecDepth 10000
namespace Go.Proofs.YtcdiehplbmkmeaaGreat
open Go Go.Sc Go.Proofs
theorem zID (now : Int) (cnt : Nat) (kb : List (ByteArray × Int)) (kl : List (Nat × LeaD)) (c : CmdD) : ∃ r cnt' kb' kl', zHj now cnt kb kl c r cnt' kb' kl' := by
  by_cases h1 : c.op = 1
  · exact ⟨_, _, _, _, .inl ⟨h1, rfl, rfl, rfl, rfl⟩⟩
  · by_cases h2 : c.op = 2
    · exact ⟨_, _, _, _, .inr (.inl ⟨h2, _, _, rfl, rfl, rfl, rfl, rfl, rfl⟩)⟩
    · by_cases h3 : c.op = 3
      · by_cases hs : yM c.span
        · by_cases hg : ∀ l, zf c.lease kl = some l → l.session ≠ c.session
          · exact ⟨_, _, _, _, .inr (.inr (.inl ⟨h3, _, _, .inr (.inl ⟨hs, hg, rfl, rfl, rfl⟩), rfl, rfl, rfl⟩))⟩
          · obtain ⟨l, hg⟩ := Classical.not_forall.1 hg
            obtain ⟨hl, hg⟩ := Classical.not_imp.1 hg
            have hg := Decidable.not_not.1 hg
            by_cases hb : (zf l.key kb).getD 0 < yA l.key kl
            · exact ⟨_, _, _, _, .inr (.inr (.inl ⟨h3, _, _, .inr (.inr ⟨hs, l, hl, hg, .inl ⟨hb, rfl, rfl, rfl⟩⟩), rfl, rfl, rfl⟩))⟩
            · exact ⟨_, _, _, _, .inr (.inr (.inl ⟨h3, _, _, .inr (.inr ⟨hs, l, hl, hg, .inr ⟨Int.not_lt.1 hb, rfl, rfl, rfl⟩⟩), rfl, rfl, rfl⟩))⟩
        · exact ⟨_, _, _, _, .inr (.inr (.inl ⟨h3, _, _, .inl ⟨hs, rfl, rfl, rfl⟩, rfl, rfl, rfl⟩))⟩
      · by_cases h4 : c.op = 4
        · by_cases hg : ∀ l, zf c.lease kl = some l → l.session ≠ c.session
          · exact ⟨_, _, _, _, .inr (.inr (.inr (.inl ⟨h4, _, _, .inl ⟨hg, rfl, rfl, rfl⟩, rfl, rfl, rfl⟩)))⟩
          · obtain ⟨l, hg⟩ := Classical.not_forall.1 hg
            obtain ⟨hl, hg⟩ := Classical.not_imp.1 hg
            exact ⟨_, _, _, _, .inr (.inr (.inr (.inl ⟨h4, _, _, .inr ⟨l, hl, Decidable.not_not.1 hg, rfl, rfl, rfl⟩, rfl, rfl, rfl⟩)))⟩
        · exact ⟨_, _, _, _, .inr (.inr (.inr (.inr ⟨⟨⟨h1, h2⟩, h3, h4⟩, rfl, rfl, rfl, rfl⟩)))⟩
theorem LRel.own (bs : List BudD) (ls : List LeaD) (rs : List RepD) : LRel (KB bs) (KL ls) (KR rs) bs ls rs := ⟨⟨.refl _, .refl _⟩, .refl _⟩
theorem LOkR.doF {t : RL} (h : LOkR t.now t.cnt t.bs t.ls t.rs) {c : CmdD} (hc : c.wf) (hn : t.cnt < 1000000000) : LOkR t.now (doF t c).2.cnt (doF t c).2.bs (doF t c).2.ls (doF t c).2.rs ∧ (doF t c).1.1.wf := by
  obtain ⟨r, cnt', kb', kl', hk⟩ := zID t.now t.cnt (KB t.bs) (KL t.ls) c
  have h2 := (zD8 t c).1
  have hr := LRel.own t.bs t.ls t.rs
  rcases zCg t c with ⟨s, _, h1⟩ | ⟨_, h1⟩
  · have q := zEE h hr hc hn (.inl ⟨h1, rfl, rfl, rfl, rfl, rfl⟩) h2
    exact ⟨q.2.2.2.2.1, by rw [← q.1]; exact q.2.2.2.2.2.1⟩
  · have q := zEE h hr hc hn (.inr ⟨h1, hk, rfl, rfl⟩) h2
    exact ⟨q.2.2.2.2.1, by rw [← q.1]; exact q.2.2.2.2.2.1⟩
section
variable {l : List CallD} {t : RL} {dn : List Bool} {m : MovD}
end
theorem zIN {c : CallD} (h2 : ¬ (c.beg < 0 ∨ (0 ≤ c.fin ∧ c.fin < c.beg))) (h3 : ¬ (c.look = true ∧ ¬ (c.cmd = ({ session := 0, seq := 0, op := 0, key := (⟨#[]⟩ : ByteArray), amount := 0, span := 0, lease := 0 } : CmdD))))
    (h4 : ¬ ((!c.look) = true ∧ (((¬ c.cmd.ok ∨ ((c.cmd.session : Nat) : Int) = ((0 : Nat) : Int)) ∨ ((c.cmd.seq : Nat) : Int) = ((0 : Nat) : Int)) ∨ c.key ≠ (⟨#[]⟩ : ByteArray)))) : c.single := by
  refine ⟨h2, ?_⟩
  by_cases h : c.look = true
  · rw [if_pos h]; exact Decidable.not_not.1 fun q => h3 ⟨h, q⟩
  · rw [if_neg h]
    have hl : (!c.look) = true := by cases hh : c.look <;> simp_all
    refine ⟨⟨⟨Decidable.by_contra fun q => h4 ⟨hl, .inl (.inl (.inl q))⟩, fun q => h4 ⟨hl, .inl (.inl (.inr (by omega)))⟩⟩, fun q => h4 ⟨hl, .inl (.inr (by omega))⟩⟩, Decidable.by_contra fun q => h4 ⟨hl, .inr q⟩⟩
theorem zGZ {c : CallD} (h : c.look = true ∧ ¬ (c.cmd = ({ session := 0, seq := 0, op := 0, key := (⟨#[]⟩ : ByteArray), amount := 0, span := 0, lease := 0 } : CmdD))) : ¬ c.single := fun q => by
  have := q.2; rw [if_pos h.1] at this; exact h.2 this
theorem zGb {c : CallD} (h : (!c.look) = true ∧ (((¬ c.cmd.ok ∨ ((c.cmd.session : Nat) : Int) = ((0 : Nat) : Int)) ∨ ((c.cmd.seq : Nat) : Int) = ((0 : Nat) : Int)) ∨ c.key ≠ (⟨#[]⟩ : ByteArray))) : ¬ c.single := fun q => by
  have hq := q.2
  rw [if_neg (by have := h.1; cases hh : c.look <;> simp_all)] at hq
  rcases h.2 with ((k | k) | k) | k
  · exact k hq.1.1.1
  · exact hq.1.1.2 (by omega)
  · exact hq.1.2 (by omega)
  · exact k hq.2
theorem zCk {l : List CallD} {i : Nat} (hi : i < l.length) (h : ¬ ((zG l i).single ∧ zA3 (y5 (l.take i) (zG l i).edge) (zG l i))) : ¬ xD l := fun q => h (q i hi)
theorem zFQ {l : List CallD} {k : Int} (h0 : 0 ≤ k) (hk : k.toNat < l.length) (e : Int) : y5 (l.take (k + 1).toNat) e = if (zG l k.toNat).edge = e then some (zG l k.toNat) else y5 (l.take k.toNat) e := by
  rw [show (k + 1).toNat = k.toNat + 1 by omega, yP hk, kY]
theorem zIw {p c : CallD} {o : Option CallD} (h : o = some p) (h2 : ¬ (p.fin < 0 ∨ c.beg ≤ p.fin)) : zA3 o c := by rw [h]; exact h2
theorem zHY (v : Value) (l : List CallD) (w : World) (hcw : ∀ c ∈ l, c.wf) (hl : l.length ≤ 10000000) (hv : Rd w [] (Res.sl v l.length (l.flatMap CallD.cells))) : Rets Tryz.prog 9 #[v] w fun u_ w' => u_ = .bool (decide (xD l)) ∧ Own w [] [] w' := by
  refine ze Tryz.func9 rfl Tryz.ntmps9 (Own.start w) ?_
  refine zB (zH rfl (zA (zL (zB (zH rfl (zA (zW ?_)))))))
  refine xC (fun (i : Nat) => [(0, v), (3, Vj i)]) (fun (i : Nat) => i ≤ l.length ∧ SoundTo l i) (fun (i : Nat) => []) (fun (i : Nat) => l.length - i) (fun w' hw => ⟨0, ⟨rfl, rfl, trivial⟩, ⟨Nat.zero_le _, SoundTo.start l⟩, hw⟩) (fun i g hΦ => ?_)
  have hi := hΦ.1
  have hS := hΦ.2
  refine zL (zB (zC rfl (zC rfl (yY (pR hv) rfl rfl (z9 rfl rfl rfl (zA (zV rfl (fun c1 => ?_) (fun c1 => ?_))))))))
  ·
   have hil : i < l.length := by omega
   refine zJ (zL (zW (zB (zC rfl (zC rfl (zF (pR hv) 21 i rfl rfl rfl (by omega) rfl (x2 (pR hv) 21 i (off := yK v + i * 21) (fun _ => rfl) rfl rfl (by omega) rfl (yG (v := .agg #[Vi 0, .bool false, .bool false, Vn 0, Vn 0, Vi 0, .string (⟨#[]⟩ : ByteArray), Vi 0, Vi 0, Vn 0, .string (⟨#[]⟩ : ByteArray), Vi 0, Vi 0, Vn 0, Vn 0, Vi 0, Vn 0, Vi 0, Vi 0, Vi 0, Vi 0]) (by kernel_rfl) rfl (fun b4 => zm 0 rfl rfl rfl (zw rfl) rfl (zA (zL (zB ?_))))))))))))
   refine zO (o := 11) rfl rfl (zU 0 (v := Vi ((zG l i).beg)) rfl rfl rfl rfl (z9 rfl rfl rfl (zC rfl (yk (q := ((zG l i).beg) < 0) 10 3 [29, 28, 27, 26, 25, 24, 23, 22, 21, 20] ((0 ≤ ((zG l i).fin)) ∧ (((zG l i).fin) < ((zG l i).beg))) rfl rfl rfl rfl rfl rfl trivial rfl (fun h5_3 => ?_) (fun g5_14 => ?_)))))
   ·
    refine zR rfl (gF h5_3) (zO (o := 12) rfl rfl (zR rfl (gF h5_3) (zU 0 (v := Vi ((zG l i).fin)) rfl rfl rfl rfl (zR rfl (gF h5_3) (yU rfl rfl rfl (zR rfl (gF h5_3) (zC rfl (yD (q := 0 ≤ ((zG l i).fin)) 5 7 [28, 27, 26, 25, 24] (((zG l i).fin) < ((zG l i).beg)) rfl rfl rfl rfl rfl rfl ⟨_, rfl, rfl, gF h5_3⟩ rfl (fun h5_7 => ?_) (fun g5_13 => ?_)))))))))
    ·
     refine zR rfl (gT h5_7) (zO (o := 12) rfl rfl (zR rfl (gT h5_7) (zU 0 (v := Vi ((zG l i).fin)) rfl rfl rfl rfl (zR rfl (gT h5_7) (zO (o := 11) rfl rfl (zR rfl (gT h5_7) (zU 0 (v := Vi ((zG l i).beg)) rfl rfl rfl rfl (zR rfl (gT h5_7) (z9 rfl rfl rfl ?_)))))))))
     exact yH rfl (fun _ hw => hw)
    exact yH rfl (fun _ hw => hw)
   refine zA (zV rfl (fun c2 => ?_) (fun c2 => ?_))
   ·
    refine zB (zH rfl (zA ?_))
    exact zN (z4 (v := .bool false) rfl rfl (fun w' hw => ⟨(by congr 1; exact (decide_eq_false (zCk hil fun q => q.1.1 c2)).symm), hw.drop⟩))
   ·
    refine zJ (zL (zB (zO (o := 1) rfl rfl (zU 0 (v := .bool ((zG l i).look)) rfl rfl rfl rfl (zC rfl (yD (q := ((zG l i).look) = true) 4 2 [37, 36, 35, 34] (¬ (((zG l i).cmd) = ({ session := 0, seq := 0, op := 0, key := (⟨#[]⟩ : ByteArray), amount := 0, span := 0, lease := 0 } : CmdD))) rfl rfl (y3 _) rfl rfl rfl trivial rfl (fun h7_2 => ?_) (fun g7_7 => ?_)))))))
    ·
     refine zR rfl (bT h7_2) (zO (o := 3) rfl rfl (zR rfl (bT h7_2) (zAw 0 (CmdD.cells ((zG l i).cmd)) rfl rfl (kV 3 rfl) (by kernel_rfl) rfl (zR rfl (bT h7_2) (z8 (cs := [Vn 0, Vn 0, Vi 0, .string (⟨#[]⟩ : ByteArray), Vi 0, Vi 0, Vn 0]) (z := [Vn 0, Vn 0, Vi 0, .string (⟨#[]⟩ : ByteArray), Vi 0, Vi 0, Vn 0]) (pl := [(0, 1), (1, 1), (2, 1), (3, 1), (4, 1), (5, 1), (6, 1)]) (by kernel_rfl) (by kernel_rfl) rfl (zR rfl (bT h7_2) (z5 rfl (zLB (zHi ((zG l i).cmd) ({ session := 0, seq := 0, op := 0, key := (⟨#[]⟩ : ByteArray), amount := 0, span := 0, lease := 0 } : CmdD)) (by kernel_rfl) (by kernel_rfl) rfl rfl rfl rfl) ?_)))))))
     exact yH rfl (fun _ hw => hw)
    refine zA (zV rfl (fun c3 => ?_) (fun c3 => ?_))
    ·
     refine zB (zH rfl (zA ?_))
     exact zN (z4 (v := .bool false) rfl rfl (fun w' hw => ⟨(by congr 1; exact (decide_eq_false (zCk hil fun q => zGZ c3 q.1)).symm), hw.drop⟩))
    ·
     refine zJ (zL (zB (zO (o := 1) rfl rfl (zU 0 (v := .bool ((zG l i).look)) rfl rfl rfl rfl (kz (b := (zG l i).look) rfl rfl (zC rfl (yD (q := (!((zG l i).look)) = true) 21 3 [63, 62, 61, 60, 59, 58, 57, 56, 55, 54, 53, 52, 51, 50, 49, 48, 47, 46, 45, 44, 43] ((((¬ (((zG l i).cmd).ok)) ∨ (((((zG l i).cmd).session : Nat) : Int) = ((0 : Nat) : Int))) ∨ (((((zG l i).cmd).seq : Nat) : Int) = ((0 : Nat) : Int))) ∨ (((zG l i).key) ≠ (⟨#[]⟩ : ByteArray))) rfl rfl (y3 _) rfl rfl rfl trivial rfl (fun h9_3 => ?_) (fun g9_25 => ?_))))))))
     ·
      refine zR rfl (bT h9_3) (zO (o := 3) rfl rfl (zR rfl (bT h9_3) (zAw 0 (CmdD.cells ((zG l i).cmd)) rfl rfl (kV 3 rfl) (by kernel_rfl) rfl (zR rfl (bT h9_3) (zQ rfl rfl (fun w' hw => (zDL ((zG l i).cmd) w' (by have := (hcw _ (yR hil)).cmd.key; omega)).mono ?_))))))
      rintro _ w1 ⟨rfl, hO⟩
      refine (?_ : CL _ _ _ _ _ _ (Own w [] [Res.row b4 56 (CallD.cells (zG l i))])) w1 (hw.frame0 hO)
      refine zR rfl (bT h9_3) (xn (q := ((zG l i).cmd).ok) rfl rfl (zR rfl (bT h9_3) (zC rfl (yk (q := ¬ (((zG l i).cmd).ok)) 4 8 [51, 50, 49, 48] (((((zG l i).cmd).session : Nat) : Int) = ((0 : Nat) : Int)) rfl rfl rfl rfl rfl rfl ⟨_, rfl, rfl, (bT h9_3)⟩ rfl (fun h9_8 => ?_) (fun g9_13 => ?_)))))
      ·
       refine zR rfl (gF h9_8) (zO (o := 3) rfl rfl (zR rfl (gF h9_8) (zO (o := 0) rfl rfl (zR rfl (gF h9_8) (zU 0 (v := Vn (((zG l i).cmd).session)) rfl rfl rfl rfl (zR rfl (gF h9_8) (yV rfl rfl rfl ?_)))))))
       exact yH rfl (fun _ hw => hw)
      refine zR rfl (bT h9_3) (zC rfl (yk (q := (¬ (((zG l i).cmd).ok)) ∨ (((((zG l i).cmd).session : Nat) : Int) = ((0 : Nat) : Int))) 4 14 [57, 56, 55, 54] (((((zG l i).cmd).seq : Nat) : Int) = ((0 : Nat) : Int)) rfl rfl rfl rfl rfl rfl ⟨_, rfl, rfl, (bT h9_3)⟩ rfl (fun h9_14 => ?_) (fun g9_19 => ?_)))
      ·
       refine zR rfl (gF h9_14) (zO (o := 3) rfl rfl (zR rfl (gF h9_14) (zO (o := 1) rfl rfl (zR rfl (gF h9_14) (zU 0 (v := Vn (((zG l i).cmd).seq)) rfl rfl rfl rfl (zR rfl (gF h9_14) (yV rfl rfl rfl ?_)))))))
       exact yH rfl (fun _ hw => hw)
      refine zR rfl (bT h9_3) (zC rfl (yk (q := ((¬ (((zG l i).cmd).ok)) ∨ (((((zG l i).cmd).session : Nat) : Int) = ((0 : Nat) : Int))) ∨ (((((zG l i).cmd).seq : Nat) : Int) = ((0 : Nat) : Int))) 3 20 [62, 61, 60] (((zG l i).key) ≠ (⟨#[]⟩ : ByteArray)) rfl rfl rfl rfl rfl rfl ⟨_, rfl, rfl, (bT h9_3)⟩ rfl (fun h9_20 => ?_) (fun g9_24 => ?_)))
      ·
       refine zR rfl (gF h9_20) (zO (o := 10) rfl rfl (zR rfl (gF h9_20) (zU 0 (v := .string ((zG l i).key)) rfl rfl rfl rfl (zR rfl (gF h9_20) (zEr rfl rfl rfl ?_)))))
       exact yH rfl (fun _ hw => hw)
      exact yH rfl (fun _ hw => hw)
     refine zA (zV rfl (fun c4 => ?_) (fun c4 => ?_))
     ·
      refine zB (zH rfl (zA ?_))
      exact zN (z4 (v := .bool false) rfl rfl (fun w' hw => ⟨(by congr 1; exact (decide_eq_false (zCk hil fun q => zGb c4 q.1)).symm), hw.drop⟩))
     ·
      have hsg := zIN c2 c3 c4
      refine zJ (zB (zC rfl (yJ rfl rfl (zh (by omega)) rfl (zH rfl (zA (zW ?_))))))
      refine xC (fun (k : Int) => [(0, v), (3, Vj i), (4, .pointer (some ⟨b4, 0, none⟩)), (5, Vi k)]) (fun (k : Int) => (-1 ≤ k ∧ k < i) ∧ y5 (l.take i) (zG l i).edge = y5 (l.take (k + 1).toNat) (zG l i).edge) (fun (k : Int) => [Res.row b4 56 (CallD.cells (zG l i))]) (fun (k : Int) => (k + 1).toNat) (fun w' hw => ⟨(i : Int) - 1, ⟨rfl, rfl, rfl, rfl, trivial⟩, ⟨by omega, by rw [show ((i : Int) - 1 + 1).toNat = i by omega]⟩, hw⟩) (fun k g hΦ => ?_)
      have hk := hΦ.1
      have hL := hΦ.2
      refine zL (zB (zC rfl (yU rfl rfl rfl (zA (zV rfl (fun c5 => ?_) (fun c5 => ?_))))))
      ·
       have hkl : k.toNat < l.length := by omega
       have hls := zFQ c5 hkl (zG l i).edge
       refine zJ (zL (zW (xN (by kernel_rfl) (by kernel_rfl) (zb rfl (zK) (zb rfl (zK) (zb rfl (z7 (pR hv) 21 ((k).toNat) rfl rfl (by omega) (by omega)) (zb rfl (zc (o := 0) rfl) (zb rfl (yT (pR hv) 21 ((k).toNat) 0 (off := yK v + ((k).toNat) * 21 + 0) (fun _ => rfl) rfl (by omega) (by omega) rfl) (zb rfl (zc (o := 0) rfl) (zb rfl (zl 0 (v := Vi ((zG l i).edge)) rfl rfl rfl) (zb rfl (zMG rfl rfl) (js ?_))))))))))))
       refine zV rfl (fun c6 => ?_) (fun c6 => ?_)
       ·
        have hlo : y5 (l.take i) (zG l i).edge = some (zG l k.toNat) := by rw [hL, hls, if_pos c6]
        refine zL (xN (by kernel_rfl) (by kernel_rfl) (zb rfl (zK) (zb rfl (zK) (zb rfl (z7 (pR hv) 21 ((k).toNat) rfl rfl (by omega) (by omega)) (zb rfl (zc (o := 12) rfl) (zb rfl (yT (pR hv) 21 ((k).toNat) 12 (off := yK v + ((k).toNat) * 21 + 12) (fun _ => rfl) rfl (by omega) (by omega) rfl) (zb rfl (zCR rfl rfl) (zb rfl (zK) (zHN (q := ((zG l ((k).toNat)).fin) < 0) 8 6 [93, 92, 91, 90, 89, 88, 87, 86] (((zG l i).beg) ≤ ((zG l ((k).toNat)).fin)) rfl rfl rfl rfl rfl rfl trivial rfl (fun h15_6 => ?_) (fun g15_15 => ?_))))))))))
        ·
         refine y7 rfl (gF h15_6) (zb rfl (zc (o := 11) rfl) (y7 rfl (gF h15_6) (zb rfl (zl 0 (v := Vi ((zG l i).beg)) rfl rfl rfl) (y7 rfl (gF h15_6) (zb rfl (zK) (y7 rfl (gF h15_6) (zb rfl (zK) (y7 rfl (gF h15_6) (zb rfl (z7 (pR hv) 21 ((k).toNat) rfl rfl (by omega) (by omega)) (y7 rfl (gF h15_6) (zb rfl (zc (o := 12) rfl) (y7 rfl (gF h15_6) ?_))))))))))))
         refine zb rfl (yT (pR hv) 21 ((k).toNat) 12 (off := yK v + ((k).toNat) * 21 + 12) (fun _ => rfl) rfl (by omega) (by omega) rfl) (y7 rfl (gF h15_6) (zb rfl (zBB rfl rfl) ?_))
         exact zFW rfl
        refine js (zV rfl (fun c7 => ?_) (fun c7 => ?_))
        ·
         refine zB (zH rfl (zA ?_))
         exact zN (z4 (v := .bool false) rfl rfl (fun w' hw => ⟨(by congr 1; exact (decide_eq_false (zCk hil fun q => by have := q.2; rw [hlo] at this; exact this c7)).symm), hw.drop⟩))
        ·
         refine zJ (yB rfl (zY (zC rfl (zn rfl rfl (zh (by omega)) rfl (zH rfl ?_)))))
         exact zd (fun w' hw => ⟨i + 1, ⟨rfl, rfl, trivial⟩, ⟨hil, hS.next hsg (zIw hlo c7)⟩, hw.sel [] rfl (by decide), (by omega)⟩)
       ·
        refine zJ (zY (zC rfl (yJ rfl rfl (zh (by omega)) rfl (zH rfl ?_))))
        exact zd (fun w' hw => ⟨k - 1, ⟨rfl, rfl, rfl, rfl, trivial⟩, ⟨by omega, by rw [hL, hls, if_neg c6, show (k - 1 + 1).toNat = k.toNat by omega]⟩, hw, (by omega)⟩)
      ·
       refine yB rfl (zY (zC rfl (zn rfl rfl (zh (by omega)) rfl (zH rfl ?_))))
       exact zd (fun w' hw => ⟨i + 1, ⟨rfl, rfl, trivial⟩, ⟨hil, hS.next hsg (by rw [hL, show (k + 1).toNat = 0 by omega]; trivial)⟩, hw.sel [] rfl (by decide), (by omega)⟩)
  ·
   refine yB rfl (zB (zH rfl (zA ?_)))
   exact zN (z4 (v := .bool true) rfl rfl (fun w' hw => ⟨(by congr 1; exact (decide_eq_true (show xD l by have e : i = l.length := (by omega); rw [e] at hS; exact hS)).symm), hw.drop⟩))
end Go.Proofs.YtcdiehplbmkmeaaGreat
