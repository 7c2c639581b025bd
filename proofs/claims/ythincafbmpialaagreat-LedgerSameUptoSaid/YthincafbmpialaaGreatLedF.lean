import Derived.Test.YthincafbmpialaaGreatLedP
import Derived.Test.YthincafbmpialaaGreatLedRt
set_option linter.unusedSectionVars false
set_option linter.unusedSimpArgs false
set_option linter.unusedVariables false
set_option maxRecDepth 10000
namespace Go.Proofs.YthincafbmpialaaGreat
open Go Go.Sc Go.Proofs
def LOk (l : List RepD) : Prop := (l.map (·.session)).Pairwise (· < ·) ∧ ∀ r ∈ l, r.ok ∧ 1 ≤ r.session ∧ 1 ≤ r.seq
abbrev Bad (l : List RepD) (i : Nat) : Prop := (((yg (zI l i).ok ≠ 0) ∨ ((((zI l i).session : Nat) : Int) = ((0 : Nat) : Int))) ∨ ((((zI l i).seq : Nat) : Int) = ((0 : Nat) : Int))) ∨ ((0 < ((i : Nat) : Int)) ∧ ((((zI l i).session : Nat) : Int) ≤ (((zI l (i - 1)).session : Nat) : Int)))
theorem zEI {l : List RepD} {i : Nat} (h : ¬ Bad l i) : (zI l i).ok ∧ 1 ≤ (zI l i).session ∧ 1 ≤ (zI l i).seq ∧ (0 < i → (zI l (i - 1)).session < (zI l i).session) := by
  refine ⟨errOf_zero.1 (Decidable.not_not.1 fun q => h (.inl (.inl (.inl q)))), Nat.pos_of_ne_zero fun q => h (.inl (.inl (.inr (by omega)))), Nat.pos_of_ne_zero fun q => h (.inl (.inr (by omega))), fun q => Nat.not_le.1 fun k => h (.inr ⟨by omega, by omega⟩)⟩
theorem zGv {l : List RepD} {i : Nat} (hI : LOk (l.take i)) (hi : i < l.length) (hp : 0 < i → (zI l (i - 1)).session < (zI l i).session) : ∀ x ∈ l.take i, x.session < (zI l i).session := fun x hx => by
  obtain ⟨j, hj, e⟩ := List.mem_iff_getElem.1 hx
  have hji : j < i := by rw [List.length_take] at hj; omega
  have h1 := hp (by omega)
  by_cases c : j = i - 1
  · have e2 := xf (List.getElem?_eq_getElem (show i - 1 < l.length by omega))
    rw [List.getElem_take] at e
    subst c; rw [e2, e] at h1; exact h1
  · have hm : zI l (i - 1) = (l.take i)[i - 1]'(by rw [List.length_take]; omega) := by
      rw [List.getElem_take]; exact xf (List.getElem?_eq_getElem (by omega))
    have := List.pairwise_iff_getElem.1 hI.1 j (i - 1) (by rw [List.length_map]; exact hj) (by rw [List.length_map, List.length_take]; omega) (by omega)
    rw [List.getElem_map, List.getElem_map, e, ← hm] at this
    omega
theorem zF1 {l : List RepD} {i : Nat} (hI : LOk (l.take i)) (hi : i < l.length) (h : ¬ Bad l i) : LOk (l.take (i + 1)) := by
  obtain ⟨h1, h2, h3, h4⟩ := zEI h
  have hlt := zGv hI hi h4
  rw [yD hi]
  refine ⟨?_, fun x hx => ?_⟩
  · rw [List.map_append, List.pairwise_append]
    refine ⟨hI.1, by simp, fun a ha b hb => ?_⟩
    obtain ⟨x, hx, rfl⟩ := List.mem_map.1 ha
    simp at hb; rw [hb]; exact hlt x hx
  · rcases List.mem_append.1 hx with q | q
    · exact hI.2 x q
    · rw [List.mem_singleton.1 q]; exact ⟨h1, h2, h3⟩
theorem zHO {l : List RepD} {i : Nat} (hI : LOk (l.take i)) (hi : i < l.length) (h : ¬ Bad l i) : y5 (zI l i).session (zI l i) (KR (l.take i)) = KR (l.take (i + 1)) := by
  have hlt := zGv hI hi (zEI h).2.2.2
  rw [zAA, yD hi]
  · unfold KR; rw [List.map_append]; rfl
  · rw [kK]
    intro p hp e
    obtain ⟨x, hx, rfl⟩ := List.mem_map.1 hp
    have := hlt x hx
    simp only at e; omega
theorem zHC {l : List RepD} {i : Nat} (hi : i < l.length) (h : Bad l i) (hL : LOk l) : False := by
  have hm := hL.2 _ (yH hi)
  rcases h with ((h | h) | h) | h
  · exact h (errOf_zero.2 hm.1)
  · omega
  · omega
  · have e1 := xf (List.getElem?_eq_getElem hi)
    have e2 := xf (List.getElem?_eq_getElem (show i - 1 < l.length by omega))
    have := List.pairwise_iff_getElem.1 hL.1 (i - 1) i (by rw [List.length_map]; omega) (by rw [List.length_map]; omega) (by omega)
    rw [List.getElem_map, List.getElem_map, ← e1, ← e2] at this
    omega
theorem zJD {S : List Nat} (b m : Nat) (kl : List (Nat × RepD)) (v : Value) (l : List RepD) (w : World) (hl : l.length ≤ 2000000) (hwf : ∀ r ∈ l, r.wf) (hin : Own w S [Res.row b 114 [.map (some m)], Res.mp yE zh m kl] w) (hv : Rd w S (Res.sl v l.length (l.flatMap RepD.cells))) : Rets Tryz.prog 45 #[.pointer (some ⟨b, 0, none⟩), v] w fun u_ w' => ∃ (m' : Nat) (kl' : List (Nat × RepD)) (e : Int), u_ = Vi e ∧ ((e = 0 ∧ COk l ∧ kl' = KR l) ∨ (e = 2 ∧ ¬ COk l ∧ kl' = kl)) ∧ Own w S [Res.row b 114 [.map (some m')], Res.mp yE zh m' kl'] w' := by
  refine zb Tryz.func45 rfl Tryz.ntmps45 hin ?_
  refine zB (zD rfl (zA (zL (zB (zC rfl (yz (by kernel_rfl) rfl rfl rfl (zA (xO rfl (zM (zL (zB (zC rfl ?_))))))))))))
  refine yO (pR hv) rfl rfl (y9 rfl rfl rfl (zA (zZ rfl (fun c2 => ?_) (fun c2 => ?_))))
  ·
   refine zB (zD rfl (zA ?_))
   exact zP (z8 (v := Vi 2) rfl rfl (fun w' hw => ⟨m, kl, 2, rfl, .inr ⟨rfl, fun h => by have := h.len; omega, rfl⟩, hw⟩))
  ·
   refine zM (zB (zBA (α := RepD) yE zh rfl rfl (fun m15 => zD rfl (zA (zL (zB (zC rfl (yO (pR hv) rfl rfl (zC rfl (zA (zQ ?_)))))))))))
   refine xY (fun (i : Nat) (kn : List (Nat × RepD)) => [(0, .pointer (some ⟨b, 0, none⟩)), (1, v), (5, .map (some m15)), (16, v), (17, Vj l.length), (18, Vj i)]) (fun (i : Nat) (kn : List (Nat × RepD)) => i ≤ l.length ∧ LOk (l.take i) ∧ kn = KR (l.take i)) (fun (i : Nat) (kn : List (Nat × RepD)) => [Res.row b 114 [.map (some m)], Res.mp yE zh m kl, Res.mp yE zh m15 kn]) (fun (i : Nat) (kn : List (Nat × RepD)) => l.length - i) (fun w' hw => ⟨0, [], ⟨rfl, rfl, rfl, rfl, rfl, rfl, trivial⟩, ⟨Nat.zero_le _, by simp [LOk], rfl⟩, hw⟩) (fun i kn g hΦ => ?_)
   have hi := hΦ.1
   have hI := hΦ.2.1
   have hkn := hΦ.2.2
   refine zB (yZ rfl rfl rfl (zA (zL (zZ rfl (fun c3 => ?_) (fun c3 => ?_)))))
   ·
    refine zM (zL (zQ (zB (zC rfl (zH (pR hv) 6 i rfl rfl rfl (by omega) rfl (jA (pR hv) 6 i (off := xZ v + i * 6) (fun _ => rfl) rfl rfl (by omega) rfl (yL (v := .agg #[Vn 0, Vn 0, Vi 0, Vn 0, Vi 0, Vi 0]) (by kernel_rfl) rfl (fun b7 => zD rfl (zo 3 rfl rfl rfl (yI rfl) rfl (zA (zL (zB ?_))))))))))))
    refine yd (cs := (RepD.cells (zI l i))) 3 rfl rfl rfl (zK rfl rfl (fun w' hw => (zAu (zI l i) w' (hwf _ (yH (by omega)))).mono ?_))
    rintro _ w1 ⟨r1_, rfl, hO⟩
    refine (?_ : CL _ _ _ _ _ _ (Own w S [Res.row b 114 [.map (some m)], Res.mp yE zh m kl, Res.mp yE zh m15 kn, Res.row b7 43 (RepD.cells (zI l i)), Res.vec 5 1 r1_ (if (zI l i).ok then (zI l i).enc else []).length ((if (zI l i).ok then (zI l i).enc else []).map vb)])) w1 (hw.frame0 hO)
    refine zC rfl (zp (vs := [r1_, Vi (yg (zI l i).ok)]) rfl rfl rfl (zp (vs := [r1_, Vi (yg (zI l i).ok)]) rfl rfl rfl (zD rfl (zD rfl (zA (zAw (by kernel_rfl) (by kernel_rfl) (yF rfl (zN) (yF rfl (zLA rfl rfl) (yF rfl (zN) (zEC (q := (yg (zI l i).ok) ≠ 0) 3 2 [33, 32, 31] ((((zI l i).session : Nat) : Int) = ((0 : Nat) : Int)) rfl rfl rfl rfl rfl rfl trivial rfl (fun h10_2 => ?_) (fun g10_6 => ?_)))))))))))
    ·
     refine xa rfl (gF h10_2) (yF rfl (zy (o := 0) rfl) (xa rfl (gF h10_2) (yF rfl (z7 3 (v := Vn ((zI l i).session)) rfl rfl rfl) (xa rfl (gF h10_2) (yF rfl (zMC rfl rfl) ?_)))))
     exact zE7 rfl
    refine yF rfl (zN) (zEC (q := ((yg (zI l i).ok) ≠ 0) ∨ ((((zI l i).session : Nat) : Int) = ((0 : Nat) : Int))) 3 7 [38, 37, 36] ((((zI l i).seq : Nat) : Int) = ((0 : Nat) : Int)) rfl rfl rfl rfl rfl rfl trivial rfl (fun h10_7 => ?_) (fun g10_11 => ?_))
    ·
     refine xa rfl (gF h10_7) (yF rfl (zy (o := 1) rfl) (xa rfl (gF h10_7) (yF rfl (z7 3 (v := Vn ((zI l i).seq)) rfl rfl rfl) (xa rfl (gF h10_7) (yF rfl (zMC rfl rfl) ?_)))))
     exact zE7 rfl
    refine yF rfl (zN) (zEC (q := (((yg (zI l i).ok) ≠ 0) ∨ ((((zI l i).session : Nat) : Int) = ((0 : Nat) : Int))) ∨ ((((zI l i).seq : Nat) : Int) = ((0 : Nat) : Int))) 13 12 [53, 52, 51, 50, 49, 48, 47, 46, 45, 44, 43, 42, 41] ((0 < ((i : Nat) : Int)) ∧ ((((zI l i).session : Nat) : Int) ≤ (((zI l (i - 1)).session : Nat) : Int))) rfl rfl rfl rfl rfl rfl trivial rfl (fun h10_12 => ?_) (fun g10_26 => ?_))
    ·
     refine xa rfl (gF h10_12) (yF rfl (zN) (xa rfl (gF h10_12) (yF rfl (zA8 rfl rfl) (xa rfl (gF h10_12) (yF rfl (zN) (zHT (q := 0 < ((i : Nat) : Int)) 9 15 [52, 51, 50, 49, 48, 47, 46, 45, 44] ((((zI l i).session : Nat) : Int) ≤ (((zI l (i - 1)).session : Nat) : Int)) rfl rfl rfl rfl rfl rfl ⟨_, rfl, rfl, gF h10_12⟩ rfl (fun h10_15 => ?_) (fun g10_25 => ?_)))))))
     ·
      refine xa rfl (gT h10_15) (yF rfl (zy (o := 0) rfl) (xa rfl (gT h10_15) (yF rfl (z7 3 (v := Vn ((zI l i).session)) rfl rfl rfl) (xa rfl (gT h10_15) (yF rfl (zN) (xa rfl (gT h10_15) (yF rfl (zN) (xa rfl (gT h10_15) (yF rfl (kN rfl rfl (zz (by omega))) (xa rfl (gT h10_15) (yF rfl (yU (pR hv) 6 (i - 1) rfl rfl (by omega) (by omega)) (xa rfl (gT h10_15) ?_))))))))))))
      refine yF rfl (zy (o := 0) rfl) (xa rfl (gT h10_15) (yF rfl (yo (pR hv) 6 (i - 1) 0 (off := xZ v + (i - 1) * 6 + 0) (fun _ => rfl) rfl (by omega) (by omega) rfl) (xa rfl (gT h10_15) (yF rfl (zBC rfl rfl) ?_))))
      exact zE7 rfl
     exact zE7 rfl
    refine zFY (zZ rfl (fun c4 => ?_) (fun c4 => ?_))
    ·
     refine zB (zD rfl (zA ?_))
     exact zP (z8 (v := Vi 2) rfl rfl (fun w' hw => ⟨m, kl, 2, rfl, .inr ⟨rfl, fun h => zHC (by omega) c4 ⟨h.up, h.each⟩, rfl⟩, hw.sel [0, 1] rfl (by decide)⟩))
    ·
     refine zM (zj (zC rfl (zX (o := 0) rfl rfl (zY 3 (v := Vn ((zI l i).session)) rfl rfl rfl rfl (yd (cs := (RepD.cells (zI l i))) 3 rfl rfl rfl (k8 2 (k := (zI l i).session) (v := (zI l i)) zIu zGJ rfl rfl rfl rfl (zA (zj (z6 rfl rfl (zz (by omega)) rfl (zC rfl ?_))))))))))
     exact zf (fun w' hw => ⟨i + 1, y5 (zI l i).session (zI l i) kn, ⟨rfl, rfl, rfl, rfl, rfl, rfl, trivial⟩, ⟨by omega, zF1 hI (by omega) c4, by rw [hkn]; exact zHO hI (by omega) c4⟩, hw.sel [0, 1, 2] rfl (by decide), (by omega)⟩)
   ·
    refine yK rfl (zB (zC rfl (zC rfl (zr rfl rfl (zX (o := 0) rfl rfl (xr (cs := [.map (some m)]) 0 rfl rfl rfl rfl rfl (zA (zB (zD rfl (zA ?_))))))))))
    exact zP (z8 (v := Vi 0) rfl rfl (fun w' hw => ⟨m15, kn, 0, rfl, .inl ⟨rfl, by have h := hI; rw [List.take_of_length_le (by omega)] at h; exact ⟨h.1, h.2, by omega⟩, by rw [hkn, List.take_of_length_le (by omega)]⟩, hw.sel [0, 2] rfl (by decide)⟩))
structure RL where
  now : Int
  cnt : Nat
  bs : List BudD
  ls : List LeaD
  rs : List RepD
def ku (ls : List LeaD) (i s : Nat) : Nat := ls.findIdx fun l => decide (l.id = i ∧ l.session = s)
theorem ja {ls : List LeaD} {i s : Nat} (h : ku ls i s < ls.length) : (zI ls (ku ls i s)).id = i ∧ (zI ls (ku ls i s)).session = s := by
  have h1 := List.findIdx_getElem (w := h)
  rw [xf (List.getElem?_eq_getElem h)]
  exact of_decide_eq_true h1
theorem zBy {ls : List LeaD} {i s : Nat} (h : ¬ ku ls i s < ls.length) : ∀ l ∈ ls, ¬ (l.id = i ∧ l.session = s) := fun l hl hq =>
  h (List.findIdx_lt_length.2 ⟨l, hl, decide_eq_true hq⟩)
def zAe (now : Int) (bs : List BudD) (ls : List LeaD) (s i : Nat) (sp : Int) : (LeaD × Int) × List LeaD :=
  if ¬ yl sp then ((LeaD.zero, 1), ls) else if ¬ ku ls i s < ls.length then ((LeaD.zero, 17), ls)
  else if kV (zI ls (ku ls i s)).key bs < kG (zI ls (ku ls i s)).key ls then ((LeaD.zero, 16), ls)
  else ((x7 (zI ls (ku ls i s)) (now + sp), 0), ls.set (ku ls i s) (x7 (zI ls (ku ls i s)) (now + sp)))
theorem zGd (now : Int) (bs : List BudD) (ls : List LeaD) (s i : Nat) (sp : Int) : zE4 now bs ls s i sp (zAe now bs ls s i sp).1.1 (zAe now bs ls s i sp).1.2 (zAe now bs ls s i sp).2 := by
  unfold zAe
  split
  · rename_i h; exact .inl ⟨h, rfl, rfl, rfl⟩
  · rename_i h
    have h := Decidable.not_not.1 h
    split
    · rename_i h2; exact .inr (.inl ⟨h, zBy h2, rfl, rfl, rfl⟩)
    · rename_i h2
      have h2 := Decidable.not_not.1 h2
      refine .inr (.inr ⟨h, _, h2, (ja h2).1, (ja h2).2, ?_⟩)
      split
      · rename_i h3; exact .inl ⟨h3, rfl, rfl, rfl⟩
      · rename_i h3; exact .inr ⟨by omega, rfl, rfl, rfl⟩
def zCQ (ls : List LeaD) (s i : Nat) : (LeaD × Int) × List LeaD :=
  if ¬ ku ls i s < ls.length then ((LeaD.zero, 17), ls) else ((zI ls (ku ls i s), 0), ls.take (ku ls i s) ++ ls.drop (ku ls i s + 1))
theorem zHe (ls : List LeaD) (s i : Nat) : zHE ls s i (zCQ ls s i).1.1 (zCQ ls s i).1.2 (zCQ ls s i).2 := by
  unfold zCQ
  split
  · rename_i h2; exact .inl ⟨zBy h2, rfl, rfl, rfl⟩
  · rename_i h2
    have h2 := Decidable.not_not.1 h2
    exact .inr ⟨_, h2, (ja h2).1, (ja h2).2, rfl, rfl, rfl⟩
def zCu (t : RL) (c : CmdD) : RepD × RL :=
  if c.op = 1 then (zIR c (zFM c.key c.amount t.bs) (kG c.key t.ls), { t with bs := zEX c.key c.amount t.bs })
  else if c.op = 2 then
    (jc c (j0 (jt c.session c.key c.amount c.span t.bs t.ls) t.cnt c.session c.key c.amount (t.now + c.span)) (jt c.session c.key c.amount c.span t.bs t.ls),
      { t with cnt := zCi (jt c.session c.key c.amount c.span t.bs t.ls) t.cnt, ls := zCU (jt c.session c.key c.amount c.span t.bs t.ls) (j0 (jt c.session c.key c.amount c.span t.bs t.ls) t.cnt c.session c.key c.amount (t.now + c.span)) t.ls })
  else if c.op = 3 then (jc c (zAe t.now t.bs t.ls c.session c.lease c.span).1.1 (zAe t.now t.bs t.ls c.session c.lease c.span).1.2, { t with ls := (zAe t.now t.bs t.ls c.session c.lease c.span).2 })
  else if c.op = 4 then (jc c (zCQ t.ls c.session c.lease).1.1 (zCQ t.ls c.session c.lease).1.2, { t with ls := (zCQ t.ls c.session c.lease).2 })
  else (kI c 0, t)
theorem zFT (t : RL) (c : CmdD) : zIz t.now t.cnt t.bs t.ls c (zCu t c).1 (zCu t c).2.cnt (zCu t c).2.bs (zCu t c).2.ls ∧ (zCu t c).2.now = t.now ∧ (zCu t c).2.rs = t.rs := by
  unfold zCu
  by_cases h1 : c.op = 1
  · rw [if_pos h1]; exact ⟨.inl ⟨h1, rfl, rfl, rfl, rfl⟩, rfl, rfl⟩
  · rw [if_neg h1]
    by_cases h2 : c.op = 2
    · rw [if_pos h2]; exact ⟨.inr (.inl ⟨h2, _, _, rfl, rfl, rfl, rfl, rfl, rfl⟩), rfl, rfl⟩
    · rw [if_neg h2]
      by_cases h3 : c.op = 3
      · rw [if_pos h3]; exact ⟨.inr (.inr (.inl ⟨h3, _, _, zGd _ _ _ _ _ _, rfl, rfl, rfl⟩)), rfl, rfl⟩
      · rw [if_neg h3]
        by_cases h4 : c.op = 4
        · rw [if_pos h4]; exact ⟨.inr (.inr (.inr (.inl ⟨h4, _, _, zHe _ _ _, rfl, rfl, rfl⟩))), rfl, rfl⟩
        · rw [if_neg h4]; exact ⟨.inr (.inr (.inr (.inr ⟨⟨⟨h1, h2⟩, h3, h4⟩, rfl, rfl, rfl, rfl⟩))), rfl, rfl⟩
def zE9 (t : RL) (c : CmdD) : Option RepD :=
  if ¬ c.ok then some (kI c 2) else if c.session = 0 then some (kI c (if c.op = 5 then 0 else 1)) else if c.seq = 0 then some (kI c 18)
  else if (yN (KR t.rs) c.session c.seq).2 = 8 then none
  else some (if (yN (KR t.rs) c.session c.seq).2 = 0 then (yN (KR t.rs) c.session c.seq).1 else kI c (if (yN (KR t.rs) c.session c.seq).2 = 13 then 18 else (yN (KR t.rs) c.session c.seq).2))
theorem zAE {t : RL} {c : CmdD} {r : RepD} (h : xn c (yN (KR t.rs) c.session c.seq) r) : zE9 t c = some r := by
  unfold zE9
  rcases h with ⟨h, rfl⟩ | ⟨h1, h2, rfl⟩ | ⟨h1, h2, h3, rfl⟩ | ⟨⟨h1, h2, h3⟩, h4, rfl⟩
  · rw [if_pos h]
  · rw [if_neg (fun q => q h1), if_pos h2]
  · rw [if_neg (fun q => q h1), if_neg h2, if_pos h3]
  · rw [if_neg (fun q => q h1), if_neg h2, if_neg h3, if_neg h4]
theorem zGH {t : RL} {c : CmdD} (h : GoR c (yN (KR t.rs) c.session c.seq)) : zE9 t c = none := by
  unfold zE9
  rw [if_neg (fun q => q h.1.1), if_neg h.1.2.1, if_neg h.1.2.2, if_pos h.2]
theorem zJC (t : RL) (c : CmdD) : (∃ r, zE9 t c = some r ∧ xn c (yN (KR t.rs) c.session c.seq) r) ∨ (zE9 t c = none ∧ GoR c (yN (KR t.rs) c.session c.seq)) := by
  by_cases h1 : c.ok
  · by_cases h2 : c.session = 0
    · have h : xn c (yN (KR t.rs) c.session c.seq) (kI c (if c.op = 5 then 0 else 1)) := .inr (.inl ⟨h1, h2, rfl⟩)
      exact .inl ⟨_, zAE h, h⟩
    · by_cases h3 : c.seq = 0
      · have h : xn c (yN (KR t.rs) c.session c.seq) (kI c 18) := .inr (.inr (.inl ⟨h1, h2, h3, rfl⟩))
        exact .inl ⟨_, zAE h, h⟩
      · by_cases h4 : (yN (KR t.rs) c.session c.seq).2 = 8
        · exact .inr ⟨zGH ⟨⟨h1, h2, h3⟩, h4⟩, ⟨h1, h2, h3⟩, h4⟩
        · have h : xn c (yN (KR t.rs) c.session c.seq) _ := .inr (.inr (.inr ⟨⟨h1, h2, h3⟩, h4, rfl⟩))
          exact .inl ⟨_, zAE h, h⟩
  · have h : xn c (yN (KR t.rs) c.session c.seq) (kI c 2) := .inl ⟨h1, rfl⟩
    exact .inl ⟨_, zAE h, h⟩
def doF (t : RL) (c : CmdD) : (RepD × Bool) × RL :=
  match zE9 t c with
  | some r => ((r, false), t)
  | none => (((zCu t c).1, true), { (zCu t c).2 with rs := zBh t.rs (zCu t c).1 })
theorem zK7 (t : RL) (c : CmdD) : DoR t.now t.cnt t.bs t.ls t.rs c (doF t c).1.1 (doF t c).1.2 (doF t c).2.cnt (doF t c).2.bs (doF t c).2.ls (doF t c).2.rs ∧ (doF t c).2.now = t.now := by
  unfold doF
  rcases zJC t c with ⟨r, h, h2⟩ | ⟨h, h2⟩
  · rw [h]; exact ⟨.inl ⟨h2, rfl, rfl, rfl, rfl, rfl⟩, rfl⟩
  · rw [h]; exact ⟨.inr ⟨h2, (zFT t c).1, rfl, rfl⟩, (zFT t c).2.1⟩
end Go.Proofs.YthincafbmpialaaGreat
