import Derived.Test.YtcdiehplbmkmeaaGreatLDupR
import Derived.Test.YtcdiehplbmkmeaaGreatFwK
import Derived.Test.YtcdiehplbmkmeaaGreatFwT
import Derived.Laws.OwnMore
set_option linter.unusedSectionVars false
set_option linter.unusedSimpArgs false
set_option linter.unusedVariables false
set_option maxRecDepth 10000
namespace Go.Proofs.YtcdiehplbmkmeaaGreat
open Go Go.Sc Go.Proofs
theorem zHa {S : List Nat} (m : Nat) (kl : List (Nat × RepD)) (w : World) (hin : Own w S [Res.mp ym zx m kl] w) : Rets Tryz.prog 57 #[.map (some m)] w fun u_ w' => ∃ (m' : Nat), u_ = .map (some m') ∧ Own w S [Res.mp ym zx m kl, Res.mp ym zx m' kl] w' := by
  refine ze Tryz.func57 rfl Tryz.ntmps57 hin ?_
  refine zB (zH rfl (zA (zL (zB (zC rfl (zEM (by kernel_rfl) rfl rfl rfl (zA (xt rfl (zJ (zB (zC rfl (zEm (by kernel_rfl) rfl rfl ?_))))))))))))
  refine zAz 0 (ke := ym) (ve := zx) (kv := kl) Tryz.func73 (by kernel_rfl) (by kernel_rfl) (by kernel_rfl) (by kernel_rfl) rfl rfl rfl (fun m7 => zGa (by kernel_rfl) rfl rfl (zH rfl (zA ?_)))
  exact zN (z4 (v := .map (some m7)) rfl rfl (fun w' hw => ⟨m7, rfl, hw⟩))
theorem zH7 {S : List Nat} (b m : Nat) (kl : List (Nat × RepD)) (w : World) (hin : Own w S [Res.row b 130 [.map (some m)], Res.mp ym zx m kl] w) : Rets Tryz.prog 49 #[.pointer (some ⟨b, 0, none⟩)] w fun u_ w' => ∃ (b' m' : Nat), u_ = .pointer (some ⟨b', 0, none⟩) ∧ Own w S [Res.row b 130 [.map (some m)], Res.mp ym zx m kl, Res.row b' 130 [.map (some m')], Res.mp ym zx m' kl] w' := by
  refine ze Tryz.func49 rfl Tryz.ntmps49 hin ?_
  refine zB (zH rfl (zA (zL (zB (zC rfl (xk (by kernel_rfl) rfl rfl rfl (zA (xt rfl (zJ (zB (zC rfl (zt rfl rfl ?_))))))))))))
  refine zO (o := 0) rfl rfl (zU 0 (v := .map (some m)) rfl rfl rfl rfl (zQ rfl rfl (fun w' hw => (zHa m kl w' (hw.give [1] rfl (by decide))).mono ?_)))
  rintro _ w1 ⟨m'1_, rfl, hO⟩
  refine (?_ : CL _ _ _ _ _ _ (Own w S [Res.row b 130 [.map (some m)], Res.mp ym zx m kl, Res.mp ym zx m'1_ kl])) w1 (hw.frameL [1] rfl hO)
  refine z8 (cs := [.map (some m'1_)]) (z := [.map none]) (pl := [(0, 1)]) (by kernel_rfl) (by kernel_rfl) rfl (yj rfl rfl (fun b11 => zH rfl (zA ?_)))
  exact zN (z4 (v := .pointer (some ⟨b11, 0, none⟩)) rfl rfl (fun w' hw => ⟨b11, m'1_, rfl, hw.sel [0, 1, 3, 2] rfl (by decide)⟩))
def LOk (l : List RepD) : Prop := (l.map (·.session)).Pairwise (· < ·) ∧ ∀ r ∈ l, r.ok ∧ 1 ≤ r.session ∧ 1 ≤ r.seq
abbrev Bad (l : List RepD) (i : Nat) : Prop := (((yl (zG l i).ok ≠ 0) ∨ ((((zG l i).session : Nat) : Int) = ((0 : Nat) : Int))) ∨ ((((zG l i).seq : Nat) : Int) = ((0 : Nat) : Int))) ∨ ((0 < ((i : Nat) : Int)) ∧ ((((zG l i).session : Nat) : Int) ≤ (((zG l (i - 1)).session : Nat) : Int)))
end Go.Proofs.YtcdiehplbmkmeaaGreat
set_option linter.unusedVariables false
namespace Go.Sc
section
variable {P : Program} {w : World} {t e ty : TypeId} {sz by' : Nat}
theorem zBZ (ht : slT P t = some (e, sz, by')) {v u : Value} {n m : Nat} {xs news : List Value} (hown : w.ownsRow 0 e sz v n xs) (hsrc : Sl w u m news) (hl : news.length = m * sz) (h1 : ∀ v ∈ news, cell1 v = true)
    (h63 : n + m ≤ maxLen) (hb : (n + m) * by' ≤ 140737488355328) (hm : 0 < m) :
    ∃ v' w', (Builtin.append_ #[t, t] ty #[v, u]).run P w = .ok v' w' ∧
      ((Own w (yi v) [Res.vec e sz v' (n + m) (xs ++ news)] w' ∧ (∀ b ∈ yi v, b ∈ yi v') ∧ ∀ w2 : World, w2.ownsRow 0 e sz v' (n + m) (xs ++ news) → w2.ownsRow 0 e sz v n xs) ∨ Own w [] [Res.vec e sz v' (n + m) (xs ++ news)] w') := by
  obtain ⟨hu, i, z, hi, hz, rfl, rfl, hzs, hsz⟩ := jW ht
  have hsmall : n + m ≤ 9223372036854775807 := by rw [yg] at h63; exact h63
  have h1' : ∀ u ∈ news, u.oneCell' = true := fun u hu => zCY (h1 u hu)
  rcases hsrc.cells with ⟨a, rfl, rfl, rfl⟩ | ⟨b, off, cap, rfl, hnews⟩
  · omega
  · rcases hown.2 with ⟨rfl, rfl⟩ | ⟨g, cap', cur, rfl, h0, hg, hnc, hcm, hcs, htake⟩
    · have hx : xs = [] := List.eq_nil_of_length_eq_zero (by simpa using hown.1)
      subst hx
      have hr := run_append_nil (P := P) w t ty e i z hu hi hz ⟨b, off, none⟩ m cap news hl hnews (by omega) (by omega) (by have hb := hb; simp only [Nat.zero_add] at hb; omega)
      have hgr := kq (e := e) (sz := i.size) w [] news z 0 m 0 hzs (by simp) hl h63
      simp only [Nat.zero_add, List.nil_append, Array.empty_append] at hgr ⊢
      refine ⟨_, _, hr, .inr (Own.mk1 hgr.2 hgr.1 ?_)⟩
      intro b hb; simp [Res.vec, yi] at hb; right; omega
    · by_cases hroom : n + m ≤ cap'
      · have hfit : n * i.size + news.length ≤ cur.size := by rw [hl, hcs, ← Nat.add_mul]; exact Nat.mul_le_mul_right _ hroom
        have hr := run_append_room (P := P) w t ty e i hu hi g n cap' cur hg ⟨b, off, none⟩ m cap news hl hnews h1' hroom hfit
        have hlen : (xs ++ news).length = (n + m) * i.size := by rw [List.length_append, hown.1, hl, Nat.add_mul]
        refine ⟨_, _, hr, .inl ⟨Own.mk1 ⟨rfl, rfl, rfl, by simp, fun k _ hk => setRow_other w g k _ (fun e => hk (by simp [yi, e]))⟩ ⟨hlen, .inr ⟨g, cap', _, rfl, Nat.zero_le _, setRow_heap w g cur _ e _ hg, hroom, hcm, ?_, ?_⟩⟩ (fun b hb => .inl hb), fun b hb => hb, ?_⟩⟩
        · simp only [List.size_toArray, List.length_append, List.length_take, List.length_drop, Array.length_toList]
          omega
        · rw [htake, ← hlen]
          exact List.take_left
        · rintro w2 ⟨_, h2⟩
          refine ⟨hown.1, .inr ?_⟩
          rcases h2 with ⟨h2, _⟩ | ⟨g2, cap2, cur2, h2, _, hg2, hn2, hc2, hs2, ht2⟩
          · cases h2
          · cases h2
            refine ⟨g, cap', cur2, rfl, Nat.zero_le _, hg2, by omega, hcm, hs2, ?_⟩
            have := congrArg (List.take (n * i.size)) ht2
            rw [List.take_take, Nat.min_eq_left (Nat.mul_le_mul_right _ (Nat.le_add_right _ _)), ← hown.1, List.take_left] at this
            rw [← hown.1]; exact this
      · have holds : ∀ j u, xs[j]? = some u → w.cell? ((⟨g, 0, none⟩ : Addr).add j) = some u := hown.cells (g := g) rfl
        have hr := run_append_grow (P := P) w t ty e i z hu hi hz ⟨g, 0, none⟩ n cap' xs hown.1 holds ⟨b, off, none⟩ m cap news hl hnews (by omega) (by omega) (growslice_fits (by omega) hb)
        have hgr := kq (e := e) (sz := i.size) w xs news z n m cap' hzs hown.1 hl h63
        refine ⟨_, _, hr, .inr (Own.mk1 hgr.2 hgr.1 ?_)⟩
        intro b hb; simp [Res.vec, yi] at hb; right; omega
end
section
variable {P : Program} {n : Nat} {ops : Array Oper} {N : K} {f : Nat → Value} {rest : List Oper}
variable {d : Nat} {ty : TypeId} {p : String} {af : Array Edge} {x y : Operand} {t e : TypeId} {sz by' : Nat}
variable {w0 : World} {S : List Nat} {L : List Res}
theorem zIK {α : Type} {g : α → List Value} (hg : ∀ x, (g x).length = sz) {l l' : List α} (hc : ∀ x ∈ l', ∀ v ∈ g x, cell1 v = true) (i : Nat) {v u : Value} (ht : slT P t = some (e, sz, by')) (hx : ev f x = v) (hL : L[i]? = some (Res.vec e sz v l.length (l.flatMap g))) (hy : ev f y = u)
    (hs : ∀ w, Own w0 S L w → Sl w u l'.length (l'.flatMap g)) (hb : (l.length + l'.length) * by' ≤ 140737488355328) (hp : 0 < by') (hm : 0 < l'.length) (hd : Nat.blt d n = true)
    (kA : ∀ v', (∀ b ∈ yi v, b ∈ yi v') → (∀ w2 : World, w2.ownsRow 0 e sz v' (l ++ l').length ((l ++ l').flatMap g) → w2.ownsRow 0 e sz v l.length (l.flatMap g)) → CL P n ops rest N (upd f d v') (Own w0 S (L.set i (Res.vec e sz v' (l ++ l').length ((l ++ l').flatMap g)))))
    (kB : ∀ v', CL P n ops rest N (upd f d v') (Own w0 S (L ++ [Res.vec e sz v' (l ++ l').length ((l ++ l').flatMap g)]))) :
    CL P n ops (⟨some d, .call ⟨.builtin .append, #[x, y], #[t, t]⟩, ty, p, af, none⟩ :: rest) N f (Own w0 S L) := by
  intro w hw
  have h63 : l.length + l'.length ≤ maxLen := by
    rw [yg]
    have : l.length + l'.length ≤ (l.length + l'.length) * by' := Nat.le_mul_of_pos_right _ hp
    omega
  obtain ⟨v', w', hr, hO⟩ := zBZ (P := P) (ty := ty) ht (hw.holds i _ hL) (hs w hw) (xu hg l') (fun v hv => by
    obtain ⟨x, hx, hv⟩ := List.mem_flatMap.1 hv
    exact hc x hx v hv) h63 hb hm
  have e1 : l.length + l'.length = (l ++ l').length := by simp
  have e2 : l.flatMap g ++ l'.flatMap g = (l ++ l').flatMap g := by simp
  rw [e1, e2] at hO
  rcases hO with ⟨hO, h1, h2⟩ | hO
  · have hO' := hw.frame1 (E := []) hL hO
    rw [List.append_nil] at hO'
    refine xA (w' := w') ?_ hd (kA v' h1 h2 _ hO')
    simp [execOp, resolve, invoke, builtin, hx, hy, hr]
  · refine xA (w' := w') ?_ hd (kB v' _ (hw.frame0 hO))
    simp [execOp, resolve, invoke, builtin, hx, hy, hr]
theorem Own.vecBack {w : World} {v v' : Value} {n m : Nat} {xs ys : List Value} (i : Nat) (hb : ∀ b ∈ yi v, b ∈ yi v') (hk : ∀ w2 : World, w2.ownsRow 0 e sz v' m ys → w2.ownsRow 0 e sz v n xs) (hL : L[i]? = some (Res.vec e sz v' m ys)) (h : Own w0 S L w) : Own w0 S (L.set i (Res.vec e sz v n xs)) w :=
  h.turn hL (hk w) hb
theorem zJO {α : Type} {g : α → List Value} {z : α} {zv : Value} {kx ky : IntKind} {m : Nat} (ht : slT P t = some (e, 1, by')) (hz : kM P e = some zv) (hc : zv.cells = #[zv]) (hg : g z = [zv]) (hx : ev f x = .int kx (m : Int)) (hy : ev f y = .int ky (m : Int)) (hb : m * by' ≤ 140737488355328) (hp : 0 < by') (hd : Nat.blt d n = true)
    (k : ∀ b, CL P n ops rest N (upd f d (.slice (some ⟨b, 0, none⟩) m m)) (Own w0 S (L ++ [Res.vec e 1 (.slice (some ⟨b, 0, none⟩) m m) (List.replicate m z).length ((List.replicate m z).flatMap g)]))) :
    CL P n ops (⟨some d, .makeSlice t x y, ty, p, af, none⟩ :: rest) N f (Own w0 S L) := by
  intro w hw
  obtain ⟨hu, i, z', hi, hz', hs, hby, hzs, hsz⟩ := jW ht
  have e0 : z' = zv := by
    simp only [kM, hi, Option.bind_some, hz'] at hz
    exact Option.some.inj hz
  subst e0
  subst hby
  have hm : m ≤ m * i.bytes := Nat.le_mul_of_pos_right _ hp
  obtain ⟨w', hr, h1, h2⟩ := run_make_full (P := P) w 0 t e i z' 1 hu hi hz' hs kx ky m (by rw [Nat.mul_comm]; omega) (by rw [yg]; omega) (Nat.zero_le _)
  have hO : Own w [] [Res.vec e 1 (.slice (some ⟨w.heap.size, 0, none⟩) m m) (List.replicate m z).length ((List.replicate m z).flatMap g)] w' := by
    refine Own.mk1 ⟨h2.os, h2.tape, h2.output, h2.size, fun k hk _ => h2.block k hk (by simp)⟩ ?_ (fun b hb => by simp [Res.vec, yi] at hb; right; omega)
    have e1 : (madeCells z'.cells (m * 1)).toList = (List.replicate m z).flatMap g := by
      rw [hc, Nat.mul_one, toList_madeCells_one]
      clear hr h1 h2 hb hm hx hy k
      induction m with
      | zero => rfl
      | succ m ih => rw [List.replicate_succ, List.replicate_succ, List.flatMap_cons, hg, ← ih]; rfl
    rw [e1] at h1
    rw [List.length_replicate]; exact h1
  refine xA (w' := w') ?_ hd (k w.heap.size _ (hw.frame0 hO))
  simp [execOp, hx, hy, hr]
end
end Go.Sc
