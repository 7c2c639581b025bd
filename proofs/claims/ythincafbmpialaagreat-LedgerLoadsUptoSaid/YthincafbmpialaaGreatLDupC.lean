import Derived.Test.YthincafbmpialaaGreatLDupR
import Derived.Test.YthincafbmpialaaGreatLedRt
set_option linter.unusedSectionVars false
set_option linter.unusedSimpArgs false
set_option linter.unusedVariables false
set_option maxRecDepth 10000
namespace Go.Proofs.YthincafbmpialaaGreat
open Go Go.Sc Go.Proofs
def LOk (l : List RepD) : Prop := (l.map (·.session)).Pairwise (· < ·) ∧ ∀ r ∈ l, r.ok ∧ 1 ≤ r.session ∧ 1 ≤ r.seq
abbrev Bad (l : List RepD) (i : Nat) : Prop := (((yy (zI l i).ok ≠ 0) ∨ ((((zI l i).session : Nat) : Int) = ((0 : Nat) : Int))) ∨ ((((zI l i).seq : Nat) : Int) = ((0 : Nat) : Int))) ∨ ((0 < ((i : Nat) : Int)) ∧ ((((zI l i).session : Nat) : Int) ≤ (((zI l (i - 1)).session : Nat) : Int)))
theorem zFD {l : List RepD} {i : Nat} (h : ¬ Bad l i) : (zI l i).ok ∧ 1 ≤ (zI l i).session ∧ 1 ≤ (zI l i).seq ∧ (0 < i → (zI l (i - 1)).session < (zI l i).session) := by
  refine ⟨errOf_zero.1 (Decidable.not_not.1 fun q => h (.inl (.inl (.inl q)))), Nat.pos_of_ne_zero fun q => h (.inl (.inl (.inr (by omega)))), Nat.pos_of_ne_zero fun q => h (.inl (.inr (by omega))), fun q => Nat.not_le.1 fun k => h (.inr ⟨by omega, by omega⟩)⟩
theorem zI4 {l : List RepD} {i : Nat} (hI : LOk (l.take i)) (hi : i < l.length) (hp : 0 < i → (zI l (i - 1)).session < (zI l i).session) : ∀ x ∈ l.take i, x.session < (zI l i).session := fun x hx => by
  obtain ⟨j, hj, e⟩ := List.mem_iff_getElem.1 hx
  have hji : j < i := by rw [List.length_take] at hj; omega
  have h1 := hp (by omega)
  by_cases c : j = i - 1
  · have e2 := x0 (List.getElem?_eq_getElem (show i - 1 < l.length by omega))
    rw [List.getElem_take] at e
    subst c; rw [e2, e] at h1; exact h1
  · have hm : zI l (i - 1) = (l.take i)[i - 1]'(by rw [List.length_take]; omega) := by
      rw [List.getElem_take]; exact x0 (List.getElem?_eq_getElem (by omega))
    have := List.pairwise_iff_getElem.1 hI.1 j (i - 1) (by rw [List.length_map]; exact hj) (by rw [List.length_map, List.length_take]; omega) (by omega)
    rw [List.getElem_map, List.getElem_map, e, ← hm] at this
    omega
theorem zHF {l : List RepD} {i : Nat} (hI : LOk (l.take i)) (hi : i < l.length) (h : ¬ Bad l i) : LOk (l.take (i + 1)) := by
  obtain ⟨h1, h2, h3, h4⟩ := zFD h
  have hlt := zI4 hI hi h4
  rw [yB hi]
  refine ⟨?_, fun x hx => ?_⟩
  · rw [List.map_append, List.pairwise_append]
    refine ⟨hI.1, by simp, fun a ha b hb => ?_⟩
    obtain ⟨x, hx, rfl⟩ := List.mem_map.1 ha
    simp at hb; rw [hb]; exact hlt x hx
  · rcases List.mem_append.1 hx with q | q
    · exact hI.2 x q
    · rw [List.mem_singleton.1 q]; exact ⟨h1, h2, h3⟩
theorem zHo {l : List RepD} {i : Nat} (hI : LOk (l.take i)) (hi : i < l.length) (h : ¬ Bad l i) : xJ (zI l i).session (zI l i) (KR (l.take i)) = KR (l.take (i + 1)) := by
  have hlt := zI4 hI hi (zFD h).2.2.2
  rw [zAO, yB hi]
  · unfold KR; rw [List.map_append]; rfl
  · rw [kG]
    intro p hp e
    obtain ⟨x, hx, rfl⟩ := List.mem_map.1 hp
    have := hlt x hx
    simp only at e; omega
theorem zH9 {l : List RepD} {i : Nat} (hi : i < l.length) (h : Bad l i) (hL : LOk l) : False := by
  have hm := hL.2 _ (yM hi)
  rcases h with ((h | h) | h) | h
  · exact h (errOf_zero.2 hm.1)
  · omega
  · omega
  · have e1 := x0 (List.getElem?_eq_getElem hi)
    have e2 := x0 (List.getElem?_eq_getElem (show i - 1 < l.length by omega))
    have := List.pairwise_iff_getElem.1 hL.1 (i - 1) i (by rw [List.length_map]; omega) (by rw [List.length_map]; omega) (by omega)
    rw [List.getElem_map, List.getElem_map, ← e1, ← e2] at this
    omega
theorem zJ9 {S : List Nat} (b m : Nat) (kl : List (Nat × RepD)) (v : Value) (l : List RepD) (w : World) (hl : l.length ≤ 2000000) (hwf : ∀ r ∈ l, r.wf) (hin : Own w S [Res.row b 114 [.map (some m)], Res.mp yU zq m kl] w) (hv : Rd w S (Res.sl v l.length (l.flatMap RepD.cells))) : Rets Tryz.prog 45 #[.pointer (some ⟨b, 0, none⟩), v] w fun u_ w' => ∃ (m' : Nat) (kl' : List (Nat × RepD)) (e : Int), u_ = Vi e ∧ ((e = 0 ∧ COk l ∧ kl' = KR l) ∨ (e = 2 ∧ ¬ COk l ∧ kl' = kl)) ∧ Own w S [Res.row b 114 [.map (some m')], Res.mp yU zq m' kl'] w' := by
  refine zW Tryz.func45 rfl Tryz.ntmps45 hin ?_
  refine zB (zD rfl (zA (zL (zB (zC rfl (xE (by kernel_rfl) rfl rfl rfl (zA (xQ rfl (zK (zL (zB (zC rfl ?_))))))))))))
  refine yC (pR hv) rfl rfl (yg rfl rfl rfl (zA (zU rfl (fun c2 => ?_) (fun c2 => ?_))))
  ·
   refine zB (zD rfl (zA ?_))
   exact zM (z6 (v := Vi 2) rfl rfl (fun w' hw => ⟨m, kl, 2, rfl, .inr ⟨rfl, fun h => by have := h.len; omega, rfl⟩, hw⟩))
  ·
   refine zK (zB (zBA (α := RepD) yU zq rfl rfl (fun m15 => zD rfl (zA (zL (zB (zC rfl (yC (pR hv) rfl rfl (zC rfl (zA (zT ?_)))))))))))
   refine xT (fun (i : Nat) (kn : List (Nat × RepD)) => [(0, .pointer (some ⟨b, 0, none⟩)), (1, v), (5, .map (some m15)), (16, v), (17, Vj l.length), (18, Vj i)]) (fun (i : Nat) (kn : List (Nat × RepD)) => i ≤ l.length ∧ LOk (l.take i) ∧ kn = KR (l.take i)) (fun (i : Nat) (kn : List (Nat × RepD)) => [Res.row b 114 [.map (some m)], Res.mp yU zq m kl, Res.mp yU zq m15 kn]) (fun (i : Nat) (kn : List (Nat × RepD)) => l.length - i) (fun w' hw => ⟨0, [], ⟨rfl, rfl, rfl, rfl, rfl, rfl, trivial⟩, ⟨Nat.zero_le _, by simp [LOk], rfl⟩, hw⟩) (fun i kn g hΦ => ?_)
   have hi := hΦ.1
   have hI := hΦ.2.1
   have hkn := hΦ.2.2
   refine zB (yI rfl rfl rfl (zA (zL (zU rfl (fun c3 => ?_) (fun c3 => ?_)))))
   ·
    refine zK (zL (zT (zB (zC rfl (zH (pR hv) 6 i rfl rfl rfl (by omega) rfl (xh (pR hv) 6 i (off := yn v + i * 6) (fun _ => rfl) rfl rfl (by omega) rfl (yF (v := .agg #[Vn 0, Vn 0, Vi 0, Vn 0, Vi 0, Vi 0]) (by kernel_rfl) rfl (fun b7 => zD rfl (zh 3 rfl rfl rfl (z8 rfl) rfl (zA (zL (zB ?_))))))))))))
    refine yN (cs := (RepD.cells (zI l i))) 3 rfl rfl rfl (zJ rfl rfl (fun w' hw => (zAv (zI l i) w' (hwf _ (yM (by omega)))).mono ?_))
    rintro _ w1 ⟨r1_, rfl, hO⟩
    refine (?_ : CL _ _ _ _ _ _ (Own w S [Res.row b 114 [.map (some m)], Res.mp yU zq m kl, Res.mp yU zq m15 kn, Res.row b7 43 (RepD.cells (zI l i)), Res.vec 5 1 r1_ (if (zI l i).ok then (zI l i).enc else []).length ((if (zI l i).ok then (zI l i).enc else []).map vb)])) w1 (hw.frame0 hO)
    refine zC rfl (zp (vs := [r1_, Vi (yy (zI l i).ok)]) rfl rfl rfl (zp (vs := [r1_, Vi (yy (zI l i).ok)]) rfl rfl rfl (zD rfl (zD rfl (zA (xb (by kernel_rfl) (by kernel_rfl) (zf rfl (zQ) (zf rfl (zG9 rfl rfl) (zf rfl (zQ) (zFR (q := (yy (zI l i).ok) ≠ 0) 3 2 [33, 32, 31] ((((zI l i).session : Nat) : Int) = ((0 : Nat) : Int)) rfl rfl rfl rfl rfl rfl trivial rfl (fun h10_2 => ?_) (fun g10_6 => ?_)))))))))))
    ·
     refine y4 rfl (gF h10_2) (zf rfl (zi (o := 0) rfl) (y4 rfl (gF h10_2) (zf rfl (zo 3 (v := Vn ((zI l i).session)) rfl rfl rfl) (y4 rfl (gF h10_2) (zf rfl (zIp rfl rfl) ?_)))))
     exact zD7 rfl
    refine zf rfl (zQ) (zFR (q := ((yy (zI l i).ok) ≠ 0) ∨ ((((zI l i).session : Nat) : Int) = ((0 : Nat) : Int))) 3 7 [38, 37, 36] ((((zI l i).seq : Nat) : Int) = ((0 : Nat) : Int)) rfl rfl rfl rfl rfl rfl trivial rfl (fun h10_7 => ?_) (fun g10_11 => ?_))
    ·
     refine y4 rfl (gF h10_7) (zf rfl (zi (o := 1) rfl) (y4 rfl (gF h10_7) (zf rfl (zo 3 (v := Vn ((zI l i).seq)) rfl rfl rfl) (y4 rfl (gF h10_7) (zf rfl (zIp rfl rfl) ?_)))))
     exact zD7 rfl
    refine zf rfl (zQ) (zFR (q := (((yy (zI l i).ok) ≠ 0) ∨ ((((zI l i).session : Nat) : Int) = ((0 : Nat) : Int))) ∨ ((((zI l i).seq : Nat) : Int) = ((0 : Nat) : Int))) 13 12 [53, 52, 51, 50, 49, 48, 47, 46, 45, 44, 43, 42, 41] ((0 < ((i : Nat) : Int)) ∧ ((((zI l i).session : Nat) : Int) ≤ (((zI l (i - 1)).session : Nat) : Int))) rfl rfl rfl rfl rfl rfl trivial rfl (fun h10_12 => ?_) (fun g10_26 => ?_))
    ·
     refine y4 rfl (gF h10_12) (zf rfl (zQ) (y4 rfl (gF h10_12) (zf rfl (zBO rfl rfl) (y4 rfl (gF h10_12) (zf rfl (zQ) (zD2 (q := 0 < ((i : Nat) : Int)) 9 15 [52, 51, 50, 49, 48, 47, 46, 45, 44] ((((zI l i).session : Nat) : Int) ≤ (((zI l (i - 1)).session : Nat) : Int)) rfl rfl rfl rfl rfl rfl ⟨_, rfl, rfl, gF h10_12⟩ rfl (fun h10_15 => ?_) (fun g10_25 => ?_)))))))
     ·
      refine y4 rfl (gT h10_15) (zf rfl (zi (o := 0) rfl) (y4 rfl (gT h10_15) (zf rfl (zo 3 (v := Vn ((zI l i).session)) rfl rfl rfl) (y4 rfl (gT h10_15) (zf rfl (zQ) (y4 rfl (gT h10_15) (zf rfl (zQ) (y4 rfl (gT h10_15) (zf rfl (kc rfl rfl (zr (by omega))) (y4 rfl (gT h10_15) (zf rfl (yR (pR hv) 6 (i - 1) rfl rfl (by omega) (by omega)) (y4 rfl (gT h10_15) ?_))))))))))))
      refine zf rfl (zi (o := 0) rfl) (y4 rfl (gT h10_15) (zf rfl (yq (pR hv) 6 (i - 1) 0 (off := yn v + (i - 1) * 6 + 0) (fun _ => rfl) rfl (by omega) (by omega) rfl) (y4 rfl (gT h10_15) (zf rfl (zAj rfl rfl) ?_))))
      exact zD7 rfl
     exact zD7 rfl
    refine j9 (zU rfl (fun c4 => ?_) (fun c4 => ?_))
    ·
     refine zB (zD rfl (zA ?_))
     exact zM (z6 (v := Vi 2) rfl rfl (fun w' hw => ⟨m, kl, 2, rfl, .inr ⟨rfl, fun h => zH9 (by omega) c4 ⟨h.up, h.each⟩, rfl⟩, hw.sel [0, 1] rfl (by decide)⟩))
    ·
     refine zK (zd (zC rfl (zP (o := 0) rfl rfl (zS 3 (v := Vn ((zI l i).session)) rfl rfl rfl rfl (yN (cs := (RepD.cells (zI l i))) 3 rfl rfl rfl (jP 2 (k := (zI l i).session) (v := (zI l i)) zKm zGt rfl rfl rfl rfl (zA (zd (zt rfl rfl (zr (by omega)) rfl (zC rfl ?_))))))))))
     exact zj (fun w' hw => ⟨i + 1, xJ (zI l i).session (zI l i) kn, ⟨rfl, rfl, rfl, rfl, rfl, rfl, trivial⟩, ⟨by omega, zHF hI (by omega) c4, by rw [hkn]; exact zHo hI (by omega) c4⟩, hw.sel [0, 1, 2] rfl (by decide), (by omega)⟩)
   ·
    refine yG rfl (zB (zC rfl (zC rfl (zm rfl rfl (zP (o := 0) rfl rfl (yi (cs := [.map (some m)]) 0 rfl rfl rfl rfl rfl (zA (zB (zD rfl (zA ?_))))))))))
    exact zM (z6 (v := Vi 0) rfl rfl (fun w' hw => ⟨m15, kn, 0, rfl, .inl ⟨rfl, by have h := hI; rw [List.take_of_length_le (by omega)] at h; exact ⟨h.1, h.2, by omega⟩, by rw [hkn, List.take_of_length_le (by omega)]⟩, hw.sel [0, 2] rfl (by decide)⟩))
end Go.Proofs.YthincafbmpialaaGreat
