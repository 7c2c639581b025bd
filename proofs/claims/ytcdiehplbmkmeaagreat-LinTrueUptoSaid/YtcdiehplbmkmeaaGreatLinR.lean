import Derived.Test.YtcdiehplbmkmeaaGreatLinP
import Derived.Test.YtcdiehplbmkmeaaGreatLedR
import Derived.Test.YtcdiehplbmkmeaaGreatFwZ
set_option linter.unusedSectionVars false
set_option linter.unusedSimpArgs false
set_option linter.unusedVariables false
set_option maxRecDepth 10000
namespace Go.Proofs.YtcdiehplbmkmeaaGreat
open Go Go.Sc Go.Proofs
theorem zIJ (now : Int) (cnt : Nat) (kb : List (ByteArray × Int)) (kl : List (Nat × LeaD)) (c : CmdD) : ∃ r cnt' kb' kl', zGc now cnt kb kl c r cnt' kb' kl' := by
  by_cases h1 : c.op = 1
  · exact ⟨_, _, _, _, .inl ⟨h1, rfl, rfl, rfl, rfl⟩⟩
  · by_cases h2 : c.op = 2
    · exact ⟨_, _, _, _, .inr (.inl ⟨h2, _, _, rfl, rfl, rfl, rfl, rfl, rfl⟩)⟩
    · by_cases h3 : c.op = 3
      · by_cases hs : yQ c.span
        · by_cases hg : ∀ l, zf c.lease kl = some l → l.session ≠ c.session
          · exact ⟨_, _, _, _, .inr (.inr (.inl ⟨h3, _, _, .inr (.inl ⟨hs, hg, rfl, rfl, rfl⟩), rfl, rfl, rfl⟩))⟩
          · obtain ⟨l, hg⟩ := Classical.not_forall.1 hg
            obtain ⟨hl, hg⟩ := Classical.not_imp.1 hg
            have hg := Decidable.not_not.1 hg
            by_cases hb : (zf l.key kb).getD 0 < yC l.key kl
            · exact ⟨_, _, _, _, .inr (.inr (.inl ⟨h3, _, _, .inr (.inr ⟨hs, l, hl, hg, .inl ⟨hb, rfl, rfl, rfl⟩⟩), rfl, rfl, rfl⟩))⟩
            · exact ⟨_, _, _, _, .inr (.inr (.inl ⟨h3, _, _, .inr (.inr ⟨hs, l, hl, hg, .inr ⟨Int.not_lt.1 hb, rfl, rfl, rfl⟩⟩), rfl, rfl, rfl⟩))⟩
        · exact ⟨_, _, _, _, .inr (.inr (.inl ⟨h3, _, _, .inl ⟨hs, rfl, rfl, rfl⟩, rfl, rfl, rfl⟩))⟩
      · by_cases h4 : c.op = 4
        · by_cases hg : ∀ l, zf c.lease kl = some l → l.session ≠ c.session
          · exact ⟨_, _, _, _, .inr (.inr (.inr (.inl ⟨h4, _, _, .inl ⟨hg, rfl, rfl, rfl⟩, rfl, rfl, rfl⟩)))⟩
          · obtain ⟨l, hg⟩ := Classical.not_forall.1 hg
            obtain ⟨hl, hg⟩ := Classical.not_imp.1 hg
            exact ⟨_, _, _, _, .inr (.inr (.inr (.inl ⟨h4, _, _, .inr ⟨l, hl, Decidable.not_not.1 hg, rfl, rfl, rfl⟩, rfl, rfl, rfl⟩)))⟩
        · exact ⟨_, _, _, _, .inr (.inr (.inr (.inr ⟨⟨⟨h1, h2⟩, h3, h4⟩, rfl, rfl, rfl, rfl⟩)))⟩
theorem LRel.own (bs : List BudD) (ls : List LeaD) (rs : List RepD) : LRel (KB bs) (KL ls) (KR rs) bs ls rs := ⟨⟨.refl _, .refl _⟩, .refl _⟩
theorem LOkR.doF {t : RL} (h : LOkR t.now t.cnt t.bs t.ls t.rs) {c : CmdD} (hc : c.wf) (hn : t.cnt < 1000000000) : LOkR t.now (doF t c).2.cnt (doF t c).2.bs (doF t c).2.ls (doF t c).2.rs ∧ (doF t c).1.1.wf := by
  obtain ⟨r, cnt', kb', kl', hk⟩ := zIJ t.now t.cnt (KB t.bs) (KL t.ls) c
  have h2 := (zEU t c).1
  have hr := LRel.own t.bs t.ls t.rs
  rcases zE0 t c with ⟨s, _, h1⟩ | ⟨_, h1⟩
  · have q := zEZ h hr hc hn (.inl ⟨h1, rfl, rfl, rfl, rfl, rfl⟩) h2
    exact ⟨q.2.2.2.2.1, by rw [← q.1]; exact q.2.2.2.2.2.1⟩
  · have q := zEZ h hr hc hn (.inr ⟨h1, hk, rfl, rfl⟩) h2
    exact ⟨q.2.2.2.2.1, by rw [← q.1]; exact q.2.2.2.2.2.1⟩
section
variable {l : List CallD} {t : RL} {dn : List Bool} {m : MovD}
end
theorem zJF {c : CallD} (h2 : ¬ (c.beg < 0 ∨ (0 ≤ c.fin ∧ c.fin < c.beg))) (h3 : ¬ (c.look = true ∧ ¬ (c.cmd = ({ session := 0, seq := 0, op := 0, key := (⟨#[]⟩ : ByteArray), amount := 0, span := 0, lease := 0 } : CmdD))))
    (h4 : ¬ ((!c.look) = true ∧ (((¬ c.cmd.ok ∨ ((c.cmd.session : Nat) : Int) = ((0 : Nat) : Int)) ∨ ((c.cmd.seq : Nat) : Int) = ((0 : Nat) : Int)) ∨ c.key ≠ (⟨#[]⟩ : ByteArray)))) : c.single := by
  refine ⟨h2, ?_⟩
  by_cases h : c.look = true
  · rw [if_pos h]; exact Decidable.not_not.1 fun q => h3 ⟨h, q⟩
  · rw [if_neg h]
    have hl : (!c.look) = true := by cases hh : c.look <;> simp_all
    refine ⟨⟨⟨Decidable.by_contra fun q => h4 ⟨hl, .inl (.inl (.inl q))⟩, fun q => h4 ⟨hl, .inl (.inl (.inr (by omega)))⟩⟩, fun q => h4 ⟨hl, .inl (.inr (by omega))⟩⟩, Decidable.by_contra fun q => h4 ⟨hl, .inr q⟩⟩
theorem zH8 {c : CallD} (h : c.look = true ∧ ¬ (c.cmd = ({ session := 0, seq := 0, op := 0, key := (⟨#[]⟩ : ByteArray), amount := 0, span := 0, lease := 0 } : CmdD))) : ¬ c.single := fun q => by
  have := q.2; rw [if_pos h.1] at this; exact h.2 this
theorem zHh {c : CallD} (h : (!c.look) = true ∧ (((¬ c.cmd.ok ∨ ((c.cmd.session : Nat) : Int) = ((0 : Nat) : Int)) ∨ ((c.cmd.seq : Nat) : Int) = ((0 : Nat) : Int)) ∨ c.key ≠ (⟨#[]⟩ : ByteArray))) : ¬ c.single := fun q => by
  have hq := q.2
  rw [if_neg (by have := h.1; cases hh : c.look <;> simp_all)] at hq
  rcases h.2 with ((k | k) | k) | k
  · exact k hq.1.1.1
  · exact hq.1.1.2 (by omega)
  · exact hq.1.2 (by omega)
  · exact k hq.2
theorem zC0 {l : List CallD} {i : Nat} (hi : i < l.length) (h : ¬ ((zH l i).single ∧ zB9 (xt (l.take i) (zH l i).edge) (zH l i))) : ¬ xE l := fun q => h (q i hi)
theorem zGI {l : List CallD} {k : Int} (h0 : 0 ≤ k) (hk : k.toNat < l.length) (e : Int) : xt (l.take (k + 1).toNat) e = if (zH l k.toNat).edge = e then some (zH l k.toNat) else xt (l.take k.toNat) e := by
  rw [show (k + 1).toNat = k.toNat + 1 by omega, yO hk, zBB]
theorem zJB {p c : CallD} {o : Option CallD} (h : o = some p) (h2 : ¬ (p.fin < 0 ∨ c.beg ≤ p.fin)) : zB9 o c := by rw [h]; exact h2
theorem zHI (v : Value) (l : List CallD) (w : World) (hcw : ∀ c ∈ l, c.wf) (hl : l.length ≤ 10000000) (hv : Rd w [] (Res.sl v l.length (l.flatMap CallD.cells))) : Rets Tryz.prog 9 #[v] w fun u_ w' => u_ = .bool (decide (xE l)) ∧ Own w [] [] w' := by
  refine ze Tryz.func9 rfl Tryz.ntmps9 (Own.start w) ?_
  refine zB (zG rfl (zA (zK (zB (zG rfl (zA (zW ?_)))))))
  refine xD (fun (i : Nat) => [(0, v), (3, Vj i)]) (fun (i : Nat) => i ≤ l.length ∧ SoundTo l i) (fun (i : Nat) => []) (fun (i : Nat) => l.length - i) (fun w' hw => ⟨0, ⟨rfl, rfl, trivial⟩, ⟨Nat.zero_le _, SoundTo.start l⟩, hw⟩) (fun i g hΦ => ?_)
  have hi := hΦ.1
  have hS := hΦ.2
  refine zK (zB (zC rfl (zC rfl (yP (pR hv) rfl rfl (z9 rfl rfl rfl (zA (zT rfl (fun c1 => ?_) (fun c1 => ?_))))))))
  ·
   have hil : i < l.length := by omega
   refine zJ (zK (zW (zB (zC rfl (zC rfl (zF (pR hv) 21 i rfl rfl rfl (by omega) rfl (xq (pR hv) 21 i (off := yL v + i * 21) (fun _ => rfl) rfl rfl (by omega) rfl (yG (v := .agg #[Vi 0, .bool false, .bool false, Vn 0, Vn 0, Vi 0, .string (⟨#[]⟩ : ByteArray), Vi 0, Vi 0, Vn 0, .string (⟨#[]⟩ : ByteArray), Vi 0, Vi 0, Vn 0, Vn 0, Vi 0, Vn 0, Vi 0, Vi 0, Vi 0, Vi 0]) (by kernel_rfl) rfl (fun b4 => zm 0 rfl rfl rfl (zw rfl) rfl (zA (zK (zB ?_))))))))))))
   refine zO (o := 11) rfl rfl (zV 0 (v := Vi ((zH l i).beg)) rfl rfl rfl rfl (z9 rfl rfl rfl (zC rfl (yr (q := ((zH l i).beg) < 0) 10 3 [29, 28, 27, 26, 25, 24, 23, 22, 21, 20] ((0 ≤ ((zH l i).fin)) ∧ (((zH l i).fin) < ((zH l i).beg))) rfl rfl rfl rfl rfl rfl trivial rfl (fun h5_3 => ?_) (fun g5_14 => ?_)))))
   ·
    refine zR rfl (gF h5_3) (zO (o := 12) rfl rfl (zR rfl (gF h5_3) (zV 0 (v := Vi ((zH l i).fin)) rfl rfl rfl rfl (zR rfl (gF h5_3) (yW rfl rfl rfl (zR rfl (gF h5_3) (zC rfl (yE (q := 0 ≤ ((zH l i).fin)) 5 7 [28, 27, 26, 25, 24] (((zH l i).fin) < ((zH l i).beg)) rfl rfl rfl rfl rfl rfl ⟨_, rfl, rfl, gF h5_3⟩ rfl (fun h5_7 => ?_) (fun g5_13 => ?_)))))))))
    ·
     refine zR rfl (gT h5_7) (zO (o := 12) rfl rfl (zR rfl (gT h5_7) (zV 0 (v := Vi ((zH l i).fin)) rfl rfl rfl rfl (zR rfl (gT h5_7) (zO (o := 11) rfl rfl (zR rfl (gT h5_7) (zV 0 (v := Vi ((zH l i).beg)) rfl rfl rfl rfl (zR rfl (gT h5_7) (z9 rfl rfl rfl ?_)))))))))
     exact yH rfl (fun _ hw => hw)
    exact yH rfl (fun _ hw => hw)
   refine zA (zT rfl (fun c2 => ?_) (fun c2 => ?_))
   ·
    refine zB (zG rfl (zA ?_))
    exact zN (z4 (v := .bool false) rfl rfl (fun w' hw => ⟨(by congr 1; exact (decide_eq_false (zC0 hil fun q => q.1.1 c2)).symm), hw.drop⟩))
   ·
    refine zJ (zK (zB (zO (o := 1) rfl rfl (zV 0 (v := .bool ((zH l i).look)) rfl rfl rfl rfl (zC rfl (yE (q := ((zH l i).look) = true) 4 2 [37, 36, 35, 34] (¬ (((zH l i).cmd) = ({ session := 0, seq := 0, op := 0, key := (⟨#[]⟩ : ByteArray), amount := 0, span := 0, lease := 0 } : CmdD))) rfl rfl (y5 _) rfl rfl rfl trivial rfl (fun h7_2 => ?_) (fun g7_7 => ?_)))))))
    ·
     refine zR rfl (bT h7_2) (zO (o := 3) rfl rfl (zR rfl (bT h7_2) (zA4 0 (CmdD.cells ((zH l i).cmd)) rfl rfl (kg 3 rfl) (by kernel_rfl) rfl (zR rfl (bT h7_2) (z7 (cs := [Vn 0, Vn 0, Vi 0, .string (⟨#[]⟩ : ByteArray), Vi 0, Vi 0, Vn 0]) (z := [Vn 0, Vn 0, Vi 0, .string (⟨#[]⟩ : ByteArray), Vi 0, Vi 0, Vn 0]) (pl := [(0, 1), (1, 1), (2, 1), (3, 1), (4, 1), (5, 1), (6, 1)]) (by kernel_rfl) (by kernel_rfl) rfl (zR rfl (bT h7_2) (z5 rfl (zK2 (zHW ((zH l i).cmd) ({ session := 0, seq := 0, op := 0, key := (⟨#[]⟩ : ByteArray), amount := 0, span := 0, lease := 0 } : CmdD)) (by kernel_rfl) (by kernel_rfl) rfl rfl rfl rfl) ?_)))))))
     exact yH rfl (fun _ hw => hw)
    refine zA (zT rfl (fun c3 => ?_) (fun c3 => ?_))
    ·
     refine zB (zG rfl (zA ?_))
     exact zN (z4 (v := .bool false) rfl rfl (fun w' hw => ⟨(by congr 1; exact (decide_eq_false (zC0 hil fun q => zH8 c3 q.1)).symm), hw.drop⟩))
    ·
     refine zJ (zK (zB (zO (o := 1) rfl rfl (zV 0 (v := .bool ((zH l i).look)) rfl rfl rfl rfl (jB (b := (zH l i).look) rfl rfl (zC rfl (yE (q := (!((zH l i).look)) = true) 21 3 [63, 62, 61, 60, 59, 58, 57, 56, 55, 54, 53, 52, 51, 50, 49, 48, 47, 46, 45, 44, 43] ((((¬ (((zH l i).cmd).ok)) ∨ (((((zH l i).cmd).session : Nat) : Int) = ((0 : Nat) : Int))) ∨ (((((zH l i).cmd).seq : Nat) : Int) = ((0 : Nat) : Int))) ∨ (((zH l i).key) ≠ (⟨#[]⟩ : ByteArray))) rfl rfl (y5 _) rfl rfl rfl trivial rfl (fun h9_3 => ?_) (fun g9_25 => ?_))))))))
     ·
      refine zR rfl (bT h9_3) (zO (o := 3) rfl rfl (zR rfl (bT h9_3) (zA4 0 (CmdD.cells ((zH l i).cmd)) rfl rfl (kg 3 rfl) (by kernel_rfl) rfl (zR rfl (bT h9_3) (zP rfl rfl (fun w' hw => (zDl ((zH l i).cmd) w' (by have := (hcw _ (yT hil)).cmd.key; omega)).mono ?_))))))
      rintro _ w1 ⟨rfl, hO⟩
      refine (?_ : CL _ _ _ _ _ _ (Own w [] [Res.row b4 56 (CallD.cells (zH l i))])) w1 (hw.frame0 hO)
      refine zR rfl (bT h9_3) (xh (q := ((zH l i).cmd).ok) rfl rfl (zR rfl (bT h9_3) (zC rfl (yr (q := ¬ (((zH l i).cmd).ok)) 4 8 [51, 50, 49, 48] (((((zH l i).cmd).session : Nat) : Int) = ((0 : Nat) : Int)) rfl rfl rfl rfl rfl rfl ⟨_, rfl, rfl, (bT h9_3)⟩ rfl (fun h9_8 => ?_) (fun g9_13 => ?_)))))
      ·
       refine zR rfl (gF h9_8) (zO (o := 3) rfl rfl (zR rfl (gF h9_8) (zO (o := 0) rfl rfl (zR rfl (gF h9_8) (zV 0 (v := Vn (((zH l i).cmd).session)) rfl rfl rfl rfl (zR rfl (gF h9_8) (yb rfl rfl rfl ?_)))))))
       exact yH rfl (fun _ hw => hw)
      refine zR rfl (bT h9_3) (zC rfl (yr (q := (¬ (((zH l i).cmd).ok)) ∨ (((((zH l i).cmd).session : Nat) : Int) = ((0 : Nat) : Int))) 4 14 [57, 56, 55, 54] (((((zH l i).cmd).seq : Nat) : Int) = ((0 : Nat) : Int)) rfl rfl rfl rfl rfl rfl ⟨_, rfl, rfl, (bT h9_3)⟩ rfl (fun h9_14 => ?_) (fun g9_19 => ?_)))
      ·
       refine zR rfl (gF h9_14) (zO (o := 3) rfl rfl (zR rfl (gF h9_14) (zO (o := 1) rfl rfl (zR rfl (gF h9_14) (zV 0 (v := Vn (((zH l i).cmd).seq)) rfl rfl rfl rfl (zR rfl (gF h9_14) (yb rfl rfl rfl ?_)))))))
       exact yH rfl (fun _ hw => hw)
      refine zR rfl (bT h9_3) (zC rfl (yr (q := ((¬ (((zH l i).cmd).ok)) ∨ (((((zH l i).cmd).session : Nat) : Int) = ((0 : Nat) : Int))) ∨ (((((zH l i).cmd).seq : Nat) : Int) = ((0 : Nat) : Int))) 3 20 [62, 61, 60] (((zH l i).key) ≠ (⟨#[]⟩ : ByteArray)) rfl rfl rfl rfl rfl rfl ⟨_, rfl, rfl, (bT h9_3)⟩ rfl (fun h9_20 => ?_) (fun g9_24 => ?_)))
      ·
       refine zR rfl (gF h9_20) (zO (o := 10) rfl rfl (zR rfl (gF h9_20) (zV 0 (v := .string ((zH l i).key)) rfl rfl rfl rfl (zR rfl (gF h9_20) (zFP rfl rfl rfl ?_)))))
       exact yH rfl (fun _ hw => hw)
      exact yH rfl (fun _ hw => hw)
     refine zA (zT rfl (fun c4 => ?_) (fun c4 => ?_))
     ·
      refine zB (zG rfl (zA ?_))
      exact zN (z4 (v := .bool false) rfl rfl (fun w' hw => ⟨(by congr 1; exact (decide_eq_false (zC0 hil fun q => zHh c4 q.1)).symm), hw.drop⟩))
     ·
      have hsg := zJF c2 c3 c4
      refine zJ (zB (zC rfl (yJ rfl rfl (zh (by omega)) rfl (zG rfl (zA (zW ?_))))))
      refine xD (fun (k : Int) => [(0, v), (3, Vj i), (4, .pointer (some ⟨b4, 0, none⟩)), (5, Vi k)]) (fun (k : Int) => (-1 ≤ k ∧ k < i) ∧ xt (l.take i) (zH l i).edge = xt (l.take (k + 1).toNat) (zH l i).edge) (fun (k : Int) => [Res.row b4 56 (CallD.cells (zH l i))]) (fun (k : Int) => (k + 1).toNat) (fun w' hw => ⟨(i : Int) - 1, ⟨rfl, rfl, rfl, rfl, trivial⟩, ⟨by omega, by rw [show ((i : Int) - 1 + 1).toNat = i by omega]⟩, hw⟩) (fun k g hΦ => ?_)
      have hk := hΦ.1
      have hL := hΦ.2
      refine zK (zB (zC rfl (yW rfl rfl rfl (zA (zT rfl (fun c5 => ?_) (fun c5 => ?_))))))
      ·
       have hkl : k.toNat < l.length := by omega
       have hls := zGI c5 hkl (zH l i).edge
       refine zJ (zK (zW (xP (by kernel_rfl) (by kernel_rfl) (zb rfl (zL) (zb rfl (zL) (zb rfl (yA (pR hv) 21 ((k).toNat) rfl rfl (by omega) (by omega)) (zb rfl (zc (o := 0) rfl) (zb rfl (yX (pR hv) 21 ((k).toNat) 0 (off := yL v + ((k).toNat) * 21 + 0) (fun _ => rfl) rfl (by omega) (by omega) rfl) (zb rfl (zc (o := 0) rfl) (zb rfl (zl 0 (v := Vi ((zH l i).edge)) rfl rfl rfl) (zb rfl (zMB rfl rfl) (jw ?_))))))))))))
       refine zT rfl (fun c6 => ?_) (fun c6 => ?_)
       ·
        have hlo : xt (l.take i) (zH l i).edge = some (zH l k.toNat) := by rw [hL, hls, if_pos c6]
        refine zK (xP (by kernel_rfl) (by kernel_rfl) (zb rfl (zL) (zb rfl (zL) (zb rfl (yA (pR hv) 21 ((k).toNat) rfl rfl (by omega) (by omega)) (zb rfl (zc (o := 12) rfl) (zb rfl (yX (pR hv) 21 ((k).toNat) 12 (off := yL v + ((k).toNat) * 21 + 12) (fun _ => rfl) rfl (by omega) (by omega) rfl) (zb rfl (zCL rfl rfl) (zb rfl (zL) (zGz (q := ((zH l ((k).toNat)).fin) < 0) 8 6 [93, 92, 91, 90, 89, 88, 87, 86] (((zH l i).beg) ≤ ((zH l ((k).toNat)).fin)) rfl rfl rfl rfl rfl rfl trivial rfl (fun h15_6 => ?_) (fun g15_15 => ?_))))))))))
        ·
         refine y9 rfl (gF h15_6) (zb rfl (zc (o := 11) rfl) (y9 rfl (gF h15_6) (zb rfl (zl 0 (v := Vi ((zH l i).beg)) rfl rfl rfl) (y9 rfl (gF h15_6) (zb rfl (zL) (y9 rfl (gF h15_6) (zb rfl (zL) (y9 rfl (gF h15_6) (zb rfl (yA (pR hv) 21 ((k).toNat) rfl rfl (by omega) (by omega)) (y9 rfl (gF h15_6) (zb rfl (zc (o := 12) rfl) (y9 rfl (gF h15_6) ?_))))))))))))
         refine zb rfl (yX (pR hv) 21 ((k).toNat) 12 (off := yL v + ((k).toNat) * 21 + 12) (fun _ => rfl) rfl (by omega) (by omega) rfl) (y9 rfl (gF h15_6) (zb rfl (zBE rfl rfl) ?_))
         exact zGH rfl
        refine jw (zT rfl (fun c7 => ?_) (fun c7 => ?_))
        ·
         refine zB (zG rfl (zA ?_))
         exact zN (z4 (v := .bool false) rfl rfl (fun w' hw => ⟨(by congr 1; exact (decide_eq_false (zC0 hil fun q => by have := q.2; rw [hlo] at this; exact this c7)).symm), hw.drop⟩))
        ·
         refine zJ (z8 rfl (zY (zC rfl (zn rfl rfl (zh (by omega)) rfl (zG rfl ?_)))))
         exact zd (fun w' hw => ⟨i + 1, ⟨rfl, rfl, trivial⟩, ⟨hil, hS.next hsg (zJB hlo c7)⟩, hw.sel [] rfl (by decide), (by omega)⟩)
       ·
        refine zJ (zY (zC rfl (yJ rfl rfl (zh (by omega)) rfl (zG rfl ?_))))
        exact zd (fun w' hw => ⟨k - 1, ⟨rfl, rfl, rfl, rfl, trivial⟩, ⟨by omega, by rw [hL, hls, if_neg c6, show (k - 1 + 1).toNat = k.toNat by omega]⟩, hw, (by omega)⟩)
      ·
       refine z8 rfl (zY (zC rfl (zn rfl rfl (zh (by omega)) rfl (zG rfl ?_))))
       exact zd (fun w' hw => ⟨i + 1, ⟨rfl, rfl, trivial⟩, ⟨hil, hS.next hsg (by rw [hL, show (k + 1).toNat = 0 by omega]; trivial)⟩, hw.sel [] rfl (by decide), (by omega)⟩)
  ·
   refine z8 rfl (zB (zG rfl (zA ?_)))
   exact zN (z4 (v := .bool true) rfl rfl (fun w' hw => ⟨(by congr 1; exact (decide_eq_true (show xE l by have e : i = l.length := (by omega); rw [e] at hS; exact hS)).symm), hw.drop⟩))
end Go.Proofs.YtcdiehplbmkmeaaGreat
