import Derived.Test.YtkkeknmkipkbmaaGreatCorG
import Derived.Test.YtkkeknmkipkbmaaGreatFwL
set_option linter.unusedSectionVars false
set_option linter.unusedSimpArgs false
set_option linter.unusedVariables false
set_option maxRecDepth 10000
namespace Go.Proofs.YtkkeknmkipkbmaaGreat
open Go Go.Sc Go.Proofs
def pis (p : Value × List Int) : List Value := [p.1]
abbrev IsRd (p : Value × List Int) (w : World) (S : List Nat) : Prop := Rd w S (Res.sl p.1 p.2.length (p.2.flatMap I1))
theorem IsRd.at0 {p : Value × List Int} {w0 w : World} {S : List Nat} {L : List Res} (h : IsRd p w0 S) (hw : Own w0 S L w) : IsRd p w [] := hw.rd0 h
theorem IsRd.at {p : Value × List Int} {w0 w : World} {S : List Nat} {L Lin : List Res} (h : IsRd p w0 S) (hw : Own w0 S L w) (m : List Nat) (hm : m.mapM (fun i => L[i]?) = some Lin) : IsRd p w (y1 Lin) := hw.rdTo h m hm
theorem zEC (m : Nat) (w : World) (hm : 1 ≤ m ∧ m ≤ 1000000) : Rets Tryz.prog 195 #[.slice none 0 0, Vj m] w fun u_ w' => ∃ (v : Value), u_ = v ∧ Own w [] [Res.vec 3 1 v ([] : List Int).length (([] : List Int).flatMap I1)] w' := by
  refine zR Tryz.func195 rfl Tryz.ntmps195 (Own.start w) ?_
  refine zB (zH rfl (zA (zQ (zB (zC rfl (z4 rfl rfl rfl (zA (zV rfl (fun c1 => ?_) (fun c1 => ?_)))))))))
  ·
   exact absurd c1 (by omega)
  ·
   refine zP (zQ (zB (zC rfl (zC rfl (zCW rfl rfl rfl (zC rfl (kP (by kernel_rfl) rfl rfl (xW (c := 0) rfl rfl rfl rfl (xW (c := ((m : Nat) : Int)) rfl rfl (by rw [Int.sub_zero]; exact zo (by omega)) rfl (zH rfl (zA (zB ?_))))))))))))
   refine zC rfl (yP rfl rfl rfl (zA (zV rfl (fun c2 => ?_) (fun c2 => ?_))))
   ·
    refine zZ (zC rfl (zC rfl (zCW rfl rfl rfl (zEX (v := .slice none 0 0) (sz := 1) (l := 0) (h := 0) (len := 0) (cs := []) (by kernel_rfl) rfl (fun _ _ => Sl.nil) rfl ⟨_, rfl⟩ (by omega) (by omega) rfl (zC rfl (zD2 (g := I1) (z := (0 : Int)) (zv := .int .i64 0) (m := m) rfl rfl rfl rfl rfl rfl rfl (by omega) (by omega) (by show m * 8 ≤ _; omega) rfl (fun bz cz hz => zC rfl (kP (by kernel_rfl) rfl rfl (jx (pV 0 rfl) 1 0 0 (by kernel_rfl) rfl rfl ⟨_, rfl⟩ (by omega) (by omega) rfl (zH rfl (zA (zB ?_))))))))))))
    refine zC rfl (zH rfl (zA ?_))
    exact zS (zx (v := (yg (.slice (some ⟨bz,0,none⟩) m cz) 0 0 1)) rfl rfl (fun w' hw => ⟨(yg (.slice (some ⟨bz, 0, none⟩) m cz) 0 0 1), rfl, hw.vecCutL 0 0 rfl (by omega)⟩))
   ·
    exact absurd (by omega) c2
theorem zCh (lv : Value) (ps : List (Value × List Int)) (w : World) (hm : 1 ≤ (ps.flatMap Prod.snd).length ∧ (ps.flatMap Prod.snd).length ≤ 1000000) (hn : zT ps.length) (hl : Rd w [] (Res.sl lv ps.length (ps.flatMap pis))) (all_hl : ∀ p ∈ ps, IsRd p w []) : Rets Tryz.prog 162 #[lv] w fun u_ w' => ∃ (v : Value), u_ = v ∧ Own w [] [Res.vec 3 1 v (ps.flatMap Prod.snd).length ((ps.flatMap Prod.snd).flatMap I1)] w' := by
  refine zR Tryz.func162 rfl Tryz.ntmps162 (Own.start w) ?_
  refine zB (zH rfl (zA (zB (zH rfl (zA (zQ (zB (zC rfl (zk (pR hl) rfl rfl (zC rfl (zA (zY ?_))))))))))))
  refine yM (fun (k : Nat) => [(0, lv), (3, Vj (((ps.take k).flatMap Prod.snd).length)), (9, lv), (10, Vj ps.length), (11, Vj k)]) (fun (k : Nat) => k ≤ ps.length) (fun (k : Nat) => []) (fun (k : Nat) => ps.length - k) (fun w' hw => ⟨0, ⟨rfl, rfl, rfl, rfl, rfl, trivial⟩, Nat.zero_le _, hw⟩) (fun k g hΦ => ?_)
  have hle := y2 (Prod.snd : Value × List Int → List Int) ps (k + 1)
  refine zB (z4 rfl rfl rfl (zA (zQ (zV rfl (fun c1 => ?_) (fun c1 => ?_)))))
  ·
   have hnx : (ps.take (k + 1)).flatMap Prod.snd = (ps.take k).flatMap Prod.snd ++ (zU ps k).2 := by rw [z5 (by omega), List.flatMap_append]; simp
   rw [hnx, List.length_append] at hle
   refine zP (zQ (zY (zB (z6 (pR hl) 1 k rfl rfl rfl (by omega) rfl (yY (pR hl) 1 k 0 (fun _ => rfl) rfl rfl (by omega) rfl rfl (zH rfl (zA (zB (zC rfl (zC rfl (zk (pR (all_hl _ (zt (by omega)))) rfl rfl (zu rfl rfl (zo (by omega)) rfl ?_))))))))))))
   refine zH rfl (zA (zB (zC rfl (z4 rfl rfl rfl (zA (zV rfl (fun c2 => ?_) (fun c2 => ?_)))))))
   ·
    exact absurd c2 (by omega)
   ·
    refine zP (zZ (zu rfl rfl (zo (by omega)) rfl (zC rfl ?_)))
    exact zl (fun w' hw => ⟨k + 1, ⟨rfl, (by rw [hnx, List.length_append]; rfl), rfl, rfl, rfl, trivial⟩, (by omega), hw, (by omega)⟩)
  ·
   have hke : (ps.take k).flatMap Prod.snd = ps.flatMap Prod.snd := by rw [List.take_of_length_le (by omega)]
   refine z8 rfl (zB (zC rfl (zF rfl rfl (fun w' hw => (zEC (((ps.take k).flatMap Prod.snd).length) w' (by rw [hke]; exact hm)).mono ?_))))
   rintro v1_ w1 ⟨_, rfl, hO⟩
   refine (?_ : CL _ _ _ _ _ _ (Own w [] [Res.vec 3 1 v1_ ([] : List Int).length (([] : List Int).flatMap I1)])) w1 (hw.frame0 hO)
   refine zH rfl (zA (zQ (zB (zC rfl (zk (pR hl) rfl rfl (zC rfl (zA (zY ?_))))))))
   refine xe (fun (k : Nat) (v : Value) => [(6, v), (25, lv), (26, Vj ps.length), (27, Vj k)]) (fun (k : Nat) (v : Value) => k ≤ ps.length) (fun (k : Nat) (v : Value) => [Res.vec 3 1 v ((ps.take k).flatMap Prod.snd).length (((ps.take k).flatMap Prod.snd).flatMap I1)]) (fun (k : Nat) (v : Value) => ps.length - k) (fun w' hw => ⟨0, v1_, ⟨rfl, rfl, rfl, rfl, trivial⟩, Nat.zero_le _, hw⟩) (fun k v g hΦ => ?_)
   have hle := y2 (Prod.snd : Value × List Int → List Int) ps (k + 1)
   refine zB (z4 rfl rfl rfl (zA (zQ (zV rfl (fun c3 => ?_) (fun c3 => ?_)))))
   ·
    have hnx : (ps.take (k + 1)).flatMap Prod.snd = (ps.take k).flatMap Prod.snd ++ (zU ps k).2 := by rw [z5 (by omega), List.flatMap_append]; simp
    rw [hnx, List.length_append] at hle
    refine zP (zQ (zY (zB (z6 (pR hl) 1 k rfl rfl rfl (by omega) rfl (yY (pR hl) 1 k 0 (fun _ => rfl) rfl rfl (by omega) rfl rfl (zH rfl (zA (zZ (zC rfl (zC rfl (yB (g := I1) (sz := 1) (by' := 8) (fun _ => rfl) (l := ((ps.take k).flatMap Prod.snd)) (l' := (zU ps k).2) (by simp [cell1, I1]) 0 (by kernel_rfl) rfl rfl rfl (fun w' hw' => Own.rd (all_hl _ (zt (by omega))) hw') (by first | omega | (simp <;> omega)) (by decide) rfl (fun v33 => zH rfl ?_))))))))))))
    refine zA (zZ (zu rfl rfl (zo (by omega)) rfl (zC rfl ?_)))
    exact zl (fun w' hw => ⟨k + 1, v33, ⟨rfl, rfl, rfl, rfl, trivial⟩, (by omega), by rw [hnx]; exact hw, (by omega)⟩)
   ·
    have hke : (ps.take k).flatMap Prod.snd = ps.flatMap Prod.snd := by rw [List.take_of_length_le (by omega)]
    refine z8 rfl (zB (zC rfl (zH rfl (zA ?_))))
    exact zS (zx (v := v) rfl rfl (fun w' hw => ⟨v, rfl, by rw [← hke]; exact hw⟩))
end Go.Proofs.YtkkeknmkipkbmaaGreat
