import Derived.Test.YtkkeknmkipkbmaaGreatCoE
import Derived.Test.YtkkeknmkipkbmaaGreatCoS
set_option linter.unusedSectionVars false
set_option linter.unusedSimpArgs false
set_option linter.unusedVariables false
set_option maxRecDepth 10000
namespace Go.Proofs.YtkkeknmkipkbmaaGreat
open Go Go.Sc Go.Proofs
theorem zBo {F : ConfA} {c : ConfD} {l : List Nat} {n : Nat} {e : Int} (hk : c.ok ↔ F.ok) (hc : c.vs = F.vs) (hlen : l.length = F.vs.length) (h : ku c l n e) : (F.ok → n = kO l ∧ n ∈ l) ∧ (¬ F.ok → n = 0) :=
  ⟨fun q => by have h3 := (h.2.2 (hk.2 q) (by rw [hlen, hc])).2; exact ⟨(zFk h3).symm, h3.2.2⟩, fun q => (h.1 (fun q2 => q (hk.1 q2))).1⟩
theorem kT {id : Int} {vs : List Int} {ps : List PeerP} {self : Nat} {of : PeerM → Nat} : (zn id vs ps self of).length = vs.length := List.length_map _
theorem zA7 {id : Int} {vs : List Int} {ps : List PeerP} {self N : Nat} {of : PeerM → Nat} (h0 : self ≤ N) (h : ∀ p ∈ ps, of p.2 ≤ N) : ∀ n ∈ zn id vs ps self of, n ≤ N := by
  intro n hn
  obtain ⟨v, _, rfl⟩ := List.mem_map.1 hn
  unfold ky
  split
  · exact h0
  · split
    · rename_i k hk
      have := (List.findIdx?_eq_some_iff_getElem.1 hk).1
      exact h _ (zl this)
    · omega
def yt (a : StA) (term : Nat) (vs0 : List Int) (es : List EntA) (ps : List PeerP) (commit : Nat) : Nat :=
  if (za vs0 es).ok ∧ commit < kO (zn a.id (za vs0 es).vs ps es.length PeerM.mtch) ∧ (LogA.mk 0 0 es).fits (kO (zn a.id (za vs0 es).vs ps es.length PeerM.mtch)) term then kO (zn a.id (za vs0 es).vs ps es.length PeerM.mtch) else commit
theorem zCJ {a : StA} {t : TimD} {vs0 : List Int} {es : List EntA} {ps : List PeerP} {commit n : Nat} (h : ((za vs0 es).ok → n = kO (zn a.id (za vs0 es).vs ps es.length PeerM.mtch) ∧ n ∈ zn a.id (za vs0 es).vs ps es.length PeerM.mtch) ∧ (¬ (za vs0 es).ok → n = 0)) (hn : n ≤ commit ∨ ¬ (LogA.mk 0 0 es).fits n t.term) : yt a t.term vs0 es ps commit = commit := by
  unfold yt
  rw [if_neg]
  rintro ⟨h1, h2, h3⟩
  rw [← (h.1 h1).1] at h2 h3
  rcases hn with q | q
  · omega
  · exact q h3
theorem zEO {a : StA} {t : TimD} {vs0 : List Int} {es : List EntA} {ps : List PeerP} {commit n : Nat} (h : ((za vs0 es).ok → n = kO (zn a.id (za vs0 es).vs ps es.length PeerM.mtch) ∧ n ∈ zn a.id (za vs0 es).vs ps es.length PeerM.mtch) ∧ (¬ (za vs0 es).ok → n = 0)) (hn : ¬ n ≤ commit) (hf : (LogA.mk 0 0 es).fits n t.term) : yt a t.term vs0 es ps commit = n := by
  unfold yt
  by_cases q : (za vs0 es).ok
  · rw [← (h.1 q).1, if_pos ⟨q, by omega, hf⟩]
  · have := h.2 q; omega
theorem zE4 {S : List Nat} (cb jb : Nat) (t : TimD) (a : StA) (r : RolD) (b : StB) (yv out : Value) (draw : Nat) (lv : Value) (es : List EntD) (ld : Nat) (l : LdD) (w : World) (hg : (LG 0 0 es).good) (hl : es.length ≤ 1000000) (hvl : b.vs.length ≤ 12) (hpl : l.peers.length ≤ 1000000) (hcl : (za b.vs (es.map EntD.toEntA)).vs.length ≤ 12) (hpm : ∀ p ∈ l.peers, p.2.mtch ≤ 1000000) (hin : Own w S [ze cb t (pt ld) a r b yv jb draw out, Res.nl b lv es, Res.ld ld l] w) : Rets Tryz.prog 41 #[pt cb] w fun u_ w' => u_ = .tuple #[] ∧ Own w S [ze cb t (pt ld) a ({ r with commit := yt a t.term b.vs (es.map EntD.toEntA) l.peers r.commit } : RolD) b yv jb draw out, Res.nl b lv es, Res.ld ld l] w' := by
  have hb := (LG.le hg).1
  refine zT Tryz.func41 rfl Tryz.ntmps41 hin ?_
  refine zB (zD rfl (zh rfl rfl (zJ (o := 29) rfl rfl (zM 0 (v := pt b.lb) rfl rfl rfl rfl (zH rfl rfl (fun w' hw => (kQ b.lb 0 0 lv es w' (by first | assumption | omega | (simp <;> omega) | (constructor <;> (first | omega | (simp only [zd]; omega) | (simp <;> omega)))) (by first | omega | (simp <;> omega)) (hw.part0 1 0 rfl rfl) (hw.partSl0 1 1 rfl rfl) (EntD.rd.part0 1 2 rfl rfl hw)).mono ?_))))))
  rintro _ w1 ⟨rfl, hO⟩
  refine (?_ : CL _ _ _ _ _ _ (Own w S [ze cb t (pt ld) a r b yv jb draw out, Res.nl b lv es, Res.ld ld l])) w1 (hw.frame0 hO)
  refine zD rfl (yE (vs := [Vn (0 + es.length), Vn ((LG 0 0 es).end_)]) rfl rfl rfl (yE (vs := [Vn (0 + es.length), Vn ((LG 0 0 es).end_)]) rfl rfl rfl (zK rfl (zK rfl (zA (zB (zD rfl (zH rfl rfl (fun w' hw => (xW cb jb t a r b (pt ld) yv out draw _ _ w' ‹_› (by first | omega | (simp <;> omega)) (by first | omega | (simp <;> omega)) (hw.give [0, 1] rfl (by decide))).mono ?_)))))))))
  rintro _ w1 ⟨cv1_, cw2_, F3_, rfl, hf1_1, hO⟩
  have hFl : F3_.vs.length ≤ 1000 ∧ F3_.ls.length ≤ 1000 := by rw [hf1_1]; exact yi (by omega)
  refine (?_ : CL _ _ _ _ _ _ (Own w S [Res.ld ld l, ze cb t (pt ld) a r b yv jb draw out, Res.nl b lv es, vI cv1_ F3_.vs, vI cw2_ F3_.ls])) w1 (hw.frameL [0, 1] rfl hO)
  refine yS (v := .agg #[.slice none 0 0, .slice none 0 0]) (by kernel_rfl) rfl (fun b4 => ?_)
  refine zg (fun w' hw => Own.cell1Vec (i := 3) rfl hw) (fun hc1_ => ?_)
  refine zg (fun w' hw => Own.cell1Vec (i := 4) rfl hw) (fun hc2_ => ?_)
  refine yH 5 rfl rfl rfl (zF hc1_ (zF hc2_ zw)) rfl (zA (zQ (zk [0, 1, 2, 3, 4, 5] rfl (by decide) (by kernel_rfl) (fun w' hw hS => zC 0 rfl (xp (cs := [cv1_, cw2_]) 5 rfl rfl) hS (zC 1 rfl (zU) hS (zC 2 rfl (zU) hS (zN 3 rfl hw (zH rfl rfl (fun w' hw => (zFc cb jb t a r b yv out draw _ _ ld _ (0 + es.length) w' ‹_› (by first | omega | (simp <;> omega)) (by first | omega | (simp <;> omega)) (by first | omega | (simp <;> omega)) (hw.give [1, 2, 0] rfl (by decide))).mono ?_)))))))))
  rintro pv4_ w1 ⟨_, rfl, hO⟩
  refine (?_ : CL _ _ _ _ _ _ (Own w S [vI cv1_ F3_.vs, vI cw2_ F3_.ls, Res.row b4 35 [cv1_, cw2_], ze cb t (pt ld) a r b yv jb draw out, Res.nl b lv es, Res.ld ld l, vU pv4_ (zn a.id (za b.vs (es.map EntD.toEntA)).vs l.peers (0 + es.length) PeerM.mtch)])) w1 (hw.frameL [1, 2, 0] rfl hO)
  refine zE [5, 3, 4, 0, 1, 2] rfl (by decide) (fun w' hw hS => zN 4 rfl hw (zH rfl rfl (fun w' hw => (zB0 ({ vv := cv1_, vs := F3_.vs, lv := cw2_, ls := F3_.ls } : ConfD) pv4_ (zn a.id (za b.vs (es.map EntD.toEntA)).vs l.peers (0 + es.length) PeerM.mtch) w' (by first | assumption | omega | (simp <;> omega) | (constructor <;> (first | omega | (simp only [zd]; omega) | (simp <;> omega)))) (by rw [kT]; exact hcl) (hw.give [6] rfl (by decide)) ⟨(hw.rdVec 0 rfl [6] rfl rfl), (hw.rdVec 1 rfl [6] rfl rfl)⟩).mono ?_)))
  rintro _ w1 ⟨n5_, e6_, rfl, hf2_4, hO⟩
  have hr := zBo (F := za b.vs (es.map EntD.toEntA)) (by rw [← hf1_1]; exact Iff.rfl) (by rw [← hf1_1]) kT hf2_4
  have hpb : n5_ ≤ 1000000 := by
   by_cases q : (za b.vs (es.map EntD.toEntA)).ok
   · exact zA7 (by omega) hpm _ (hr.1 q).2
   · have := hr.2 q; omega
  rw [show 0 + es.length = (es.map EntD.toEntA).length by simp] at hr
  refine (?_ : CL _ _ _ _ _ _ (Own w S [vI cv1_ F3_.vs, vI cw2_ F3_.ls, Res.row b4 35 [cv1_, cw2_], ze cb t (pt ld) a r b yv jb draw out, Res.nl b lv es, Res.ld ld l, vU pv4_ (zn a.id (za b.vs (es.map EntD.toEntA)).vs l.peers (0 + es.length) PeerM.mtch)])) w1 (hw.frameL [6] rfl hO)
  refine zE [5, 3, 4, 0, 1, 2] rfl (by decide) (fun w' hw hS => zC 5 rfl (zU) hS (zC 6 rfl (yx (vs := [Vn n5_, Vi e6_]) rfl rfl) hS (zC 7 rfl (yx (vs := [Vn n5_, Vi e6_]) rfl rfl) hS (zC 8 rfl (ya) hS (zC 9 rfl (ya) hS (zX ?_))))))
  refine (?_ : C _ _ _ _ _ _ _ (Own w S [vI cv1_ F3_.vs, vI cw2_ F3_.ls, Res.row b4 35 [cv1_, cw2_], ze cb t (pt ld) a r b yv jb draw out, Res.nl b lv es, Res.ld ld l, vU pv4_ (zn a.id (za b.vs (es.map EntD.toEntA)).vs l.peers (0 + es.length) PeerM.mtch)])) _ hw
  refine zQ (zQ (zk [0, 1, 2, 3, 4, 5, 6] rfl (by decide) (by kernel_rfl) (fun w' hw hS => zC 0 rfl (zU) hS (zC 1 rfl (zU) hS (zC 2 rfl (zP rfl) hS (zC 3 rfl (zI (o := 23) rfl) hS (zC 4 rfl (zb 3 (v := Vn r.commit) rfl rfl rfl) hS (zC 5 rfl (zE2 rfl rfl) hS (zC 6 rfl (zU) hS ?_)))))))))
  by_cases g3_6 : ((n5_ : Nat) : Int) ≤ ((r.commit : Nat) : Int)
  ·
   refine zS 7 rfl rfl (gT g3_6) rfl hS (zS 8 rfl rfl (gT g3_6) rfl hS (zS 9 rfl rfl (gT g3_6) rfl hS (zS 10 rfl rfl (gT g3_6) rfl hS (zS 11 rfl rfl (gT g3_6) rfl hS (zS 12 rfl rfl (gT g3_6) rfl hS (zS 13 rfl rfl (gT g3_6) rfl hS (zS 14 rfl rfl (gT g3_6) rfl hS (zS 15 rfl rfl (gT g3_6) rfl hS (zS 16 rfl rfl (gT g3_6) rfl hS (zS 17 rfl rfl (gT g3_6) rfl hS (zS 18 rfl rfl (gT g3_6) rfl hS (zC 19 rfl (yb (gT g3_6)) hS ?_))))))))))))
   refine zX ?_
   refine (?_ : C _ _ _ _ _ _ _ (Own w S [vI cv1_ F3_.vs, vI cw2_ F3_.ls, Res.row b4 35 [cv1_, cw2_], ze cb t (pt ld) a r b yv jb draw out, Res.nl b lv es, Res.ld ld l, vU pv4_ (zn a.id (za b.vs (es.map EntD.toEntA)).vs l.peers (0 + es.length) PeerM.mtch)])) _ hw
   refine zEu rfl ?_
   exact zY (yM rfl (fun w' hw => ⟨rfl, (by rw [zCJ hr (.inl (by omega))]; exact hw.sel [3, 4, 5] rfl (by decide))⟩))
  ·
   refine zZ 7 rfl rfl (gF g3_6) (zU) hS (zZ 8 rfl rfl (gF g3_6) (zP rfl) hS (zZ 9 rfl rfl (gF g3_6) (zI (o := 29) rfl) hS (zZ 10 rfl rfl (gF g3_6) (zb 3 (v := pt b.lb) rfl rfl rfl) hS (zZ 11 rfl rfl (gF g3_6) (zU) hS (zZ 12 rfl rfl (gF g3_6) (zU) hS (zZ 13 rfl rfl (gF g3_6) (zP rfl) hS (zZ 14 rfl rfl (gF g3_6) (zI (o := 0) rfl) hS (zZ 15 rfl rfl (gF g3_6) (zI (o := 0) rfl) hS (zZ 16 rfl rfl (gF g3_6) (zb 3 (v := Vn t.term) rfl rfl rfl) hS (zN 17 rfl hw (zO rfl (gF g3_6) (zH rfl rfl (fun w' hw => ?_)))))))))))))
   refine (zA2 b.lb 0 0 lv es n5_ t.term w' (by first | assumption | omega | (simp <;> omega) | (constructor <;> (first | omega | (simp only [zd]; omega) | (simp <;> omega)))) (by first | omega | (simp <;> omega)) (by first | omega | (simp <;> omega)) (hw.part0 4 0 rfl rfl) (hw.partSl0 4 1 rfl rfl) (EntD.rd.part0 4 2 rfl rfl hw)).mono ?_
   rintro _ w1 ⟨rfl, hO⟩
   refine (?_ : CL _ _ _ _ _ _ (Own w S [vI cv1_ F3_.vs, vI cw2_ F3_.ls, Res.row b4 35 [cv1_, cw2_], ze cb t (pt ld) a r b yv jb draw out, Res.nl b lv es, Res.ld ld l, vU pv4_ (zn a.id (za b.vs (es.map EntD.toEntA)).vs l.peers (0 + es.length) PeerM.mtch)])) w1 (hw.frame0 hO)
   refine zE [0, 1, 2, 3, 4, 5, 6] rfl (by decide) (fun w' hw hS => zZ 18 rfl rfl (gF g3_6) (xX (q := (LG 0 0 es).fits n5_ t.term) rfl) hS (zC 19 rfl (yG (gF g3_6)) hS (zX ?_)))
   refine (?_ : C _ _ _ _ _ _ _ (Own w S [vI cv1_ F3_.vs, vI cw2_ F3_.ls, Res.row b4 35 [cv1_, cw2_], ze cb t (pt ld) a r b yv jb draw out, Res.nl b lv es, Res.ld ld l, vU pv4_ (zn a.id (za b.vs (es.map EntD.toEntA)).vs l.peers (0 + es.length) PeerM.mtch)])) _ hw
   refine zf rfl (fun c2 => ?_) (fun c2 => ?_)
   ·
    exact zY (yM rfl (fun w' hw => ⟨rfl, (by rw [zCJ hr (.inr c2)]; exact hw.sel [3, 4, 5] rfl (by decide))⟩))
   ·
    refine zR (zW (zD rfl (zD rfl (zh rfl rfl (zJ (o := 23) rfl rfl (zo 3 rfl rfl rfl rfl rfl ?_))))))
    exact zj (yM rfl (fun w' hw => ⟨rfl, (by rw [zEO hr (by omega) (Decidable.not_not.1 c2)]; exact hw.sel [3, 4, 5] rfl (by decide))⟩))
def xL (l : LdD) (p : PeerM) (last : Nat) (again : Bool) : Prop := p.id = l.give ∧ p.mtch = last ∧ (again = true ∨ l.given = false)
instance (l : LdD) (p : PeerM) (last : Nat) (again : Bool) : Decidable (xL l p last again) := inferInstanceAs (Decidable (_ ∧ _))
theorem handP_iff {l : LdD} {p : PeerM} {last : Nat} {again : Bool} : ((p.id = l.give ∧ (p.mtch : Int) = ((0 + last : Nat) : Int)) ∧ (again = true ∨ (!l.given) = true)) ↔ xL l p last again := by
  unfold xL
  rw [Nat.zero_add, Int.ofNat_inj, and_assoc, Bool.not_eq_true']
theorem zJ1 {S : List Nat} (cb jb : Nat) (t : TimD) (a : StA) (r : RolD) (b : StB) (yv : Value) (draw : Nat) (lv : Value) (es : List EntD) (ld : Nat) (l : LdD) (ob : Nat) (o : OutD) (k : Nat) (again : Bool) (w : World) (hg : (LG 0 0 es).good) (hl : es.length ≤ 1000000) (hvl : b.vs.length ≤ 12) (hk : k < l.peers.length) (ho : o.msgs.length ≤ 100000) (hin : Own w S [ze cb t (pt ld) a r b yv jb draw (pt ob), Res.nl b lv es, Res.ld ld l, Res.ou ob o] w) : Rets Tryz.prog 100 #[pt cb, pt ((zG l.peers k).1), .bool again] w fun u_ w' => ∃ (mv' : Value), u_ = .tuple #[] ∧ Own w S [ze cb t (pt ld) a r b yv jb draw (pt ob), Res.nl b lv es, Res.ld ld ({ l with given := if xL l (zG l.peers k).2 es.length again then true else l.given } : LdD), Res.ou ob ({ o with mv := mv', msgs := o.msgs ++ (if xL l (zG l.peers k).2 es.length again then [z8 a t.term (yP 9 0 (zG l.peers k).2.id 0 0 0 0 0 false (.slice none 0 0) [])] else []) } : OutD)] w' := by
  have hb := (LG.le hg).1
  refine zT Tryz.func100 rfl Tryz.ntmps100 hin ?_
  refine zB (zD rfl (zh rfl rfl (zJ (o := 29) rfl rfl (zM 0 (v := pt b.lb) rfl rfl rfl rfl (zH rfl rfl (fun w' hw => (kQ b.lb 0 0 lv es w' (by first | assumption | omega | (simp <;> omega) | (constructor <;> (first | omega | (simp only [zd]; omega) | (simp <;> omega)))) (by first | omega | (simp <;> omega)) (hw.part0 1 0 rfl rfl) (hw.partSl0 1 1 rfl rfl) (EntD.rd.part0 1 2 rfl rfl hw)).mono ?_))))))
  rintro _ w1 ⟨rfl, hO⟩
  refine (?_ : CL _ _ _ _ _ _ (Own w S [ze cb t (pt ld) a r b yv jb draw (pt ob), Res.nl b lv es, Res.ld ld l, Res.ou ob o])) w1 (hw.frame0 hO)
  refine zD rfl (yE (vs := [Vn (0 + es.length), Vn ((LG 0 0 es).end_)]) rfl rfl rfl (yE (vs := [Vn (0 + es.length), Vn ((LG 0 0 es).end_)]) rfl rfl rfl (zK rfl (zK rfl (zA (yV (by kernel_rfl) (by kernel_rfl) (zL rfl (zU) (zL rfl (zP rfl) (zL rfl (zI (o := 0) rfl) (zL rfl (jp (l := l.peers) 2 2 k 0 rfl rfl (by first | assumption | (simp only [zi, List.length_set]; first | assumption | omega) | omega) rfl rfl rfl (by kernel_rfl)) (zL rfl (zU) (zL rfl (zP rfl) ?_))))))))))))
  refine zL rfl (zI (o := 9) rfl) (zL rfl (zb 0 (v := pt ld) rfl rfl rfl) (zL rfl (zP rfl) (zL rfl (zI (o := 5) rfl) (zL rfl (kh (v := Vi l.give) 2 0 5 rfl rfl rfl rfl (by kernel_rfl)) (zL rfl (zAw rfl rfl) (zL rfl (zU) (zBL (q := (((zG l.peers k).2).id) = l.give) 6 12 [34, 33, 32, 31, 30, 29] (((((zG l.peers k).2).mtch : Nat) : Int) = ((0 + es.length : Nat) : Int)) rfl rfl rfl rfl rfl rfl trivial rfl (fun h1_12 => ?_) (fun g1_19 => ?_))))))))
  ·
   refine ym rfl (gT h1_12) (zL rfl (zU) (ym rfl (gT h1_12) (zL rfl (zP rfl) (ym rfl (gT h1_12) (zL rfl (zI (o := 2) rfl) (ym rfl (gT h1_12) (zL rfl (jp (l := l.peers) 2 2 k 2 rfl rfl (by first | assumption | (simp only [zi, List.length_set]; first | assumption | omega) | omega) rfl rfl rfl (by kernel_rfl)) (ym rfl (gT h1_12) (zL rfl (zU) (ym rfl (gT h1_12) (zL rfl (zAw rfl rfl) ?_)))))))))))
   exact zCM rfl
  refine zL rfl (zU) (zBL (q := ((((zG l.peers k).2).id) = l.give) ∧ (((((zG l.peers k).2).mtch : Nat) : Int) = ((0 + es.length : Nat) : Int))) 11 20 [47, 46, 45, 44, 43, 42, 41, 40, 39, 38, 37] ((again = true) ∨ ((!l.given) = true)) rfl rfl rfl rfl rfl rfl trivial rfl (fun h1_20 => ?_) (fun g1_32 => ?_))
  ·
   refine ym rfl (gT h1_20) (zL rfl (zU) (ym rfl (gT h1_20) (zL rfl (zU) (zEj (q := again = true) 8 22 [46, 45, 44, 43, 42, 41, 40, 39] ((!l.given) = true) rfl rfl (xC _) rfl rfl rfl ⟨_, rfl, rfl, gT h1_20⟩ rfl (fun h1_22 => ?_) (fun g1_31 => ?_)))))
   ·
    refine ym rfl (bF h1_22) (zL rfl (zU) (ym rfl (bF h1_22) (zL rfl (zP rfl) (ym rfl (bF h1_22) (zL rfl (zI (o := 9) rfl) (ym rfl (bF h1_22) (zL rfl (zb 0 (v := pt ld) rfl rfl rfl) (ym rfl (bF h1_22) (zL rfl (zP rfl) (ym rfl (bF h1_22) (zL rfl (zI (o := 6) rfl) (ym rfl (bF h1_22) ?_))))))))))))
    refine zL rfl (kh (v := .bool l.given) 2 0 6 rfl rfl rfl rfl (by kernel_rfl)) (ym rfl (bF h1_22) (zL rfl (zBG (b := l.given) rfl) ?_))
    exact zCM (xC _)
   exact zCM rfl
  refine xN (zf rfl (fun c1 => ?_) (fun c1 => ?_))
  ·
   have hp := handP_iff.1 c1
   refine zB (zD rfl (zh rfl rfl (zJ (o := 9) rfl rfl (zM 0 (v := pt ld) rfl rfl rfl rfl (zh rfl rfl (zJ (o := 6) rfl rfl ?_))))))
   refine zx [ze cb t (pt ld) a r b yv jb draw (pt ob), Res.nl b lv es, Res.ou ob o, yB ld l, vP l.pv l.peers, sP l.peers, vI l.av l.answered, vT l.rv l.rounds, vL l.kv l.looks] (fun w' hw => hw.starOpen 2 rfl) ?_
   refine zo (cs := (LdD.cells l)) 3 rfl rfl rfl rfl rfl (zA (zW (zD rfl (zD rfl (zh rfl rfl (zJ (o := 0) rfl rfl (zHr (l := l.peers) 5 k 0 rfl (by first | assumption | (simp only [zi, List.length_set]; first | assumption | omega) | omega) rfl rfl rfl (by kernel_rfl) rfl (yc (cs := [Vi 9, Vi 0, Vi (((zG l.peers k).2).id), Vn 0, Vn 0, Vn 0, Vn 0, Vn 0, .bool false, .slice none 0 0, .slice none 0 0, .slice none 0 0, Vi 0, .slice none 0 0]) (z := [Vi 0, Vi 0, Vi 0, Vn 0, Vn 0, Vn 0, Vn 0, Vn 0, .bool false, .slice none 0 0, .slice none 0 0, .slice none 0 0, Vi 0, .slice none 0 0]) (pl := [(0, 1), (1, 1), (2, 1), (3, 1), (4, 1), (5, 1), (6, 1), (7, 1), (8, 1), (9, 1), (10, 2), (12, 1), (13, 1)]) (by kernel_rfl) (by kernel_rfl) rfl (z4 (e := 59) (sz := 14) (vs := [.agg #[Vi 9, Vi 0, Vi (((zG l.peers k).2).id), Vn 0, Vn 0, Vn 0, Vn 0, Vn 0, .bool false, .slice none 0 0, .slice none 0 0, .slice none 0 0, Vi 0, .slice none 0 0]]) (by kernel_rfl) rfl rfl (by simp [Value.cells, MsgD.cells, ConfD.cells]) (by decide) rfl (fun b61 => ?_))))))))))
   refine zx [ze cb t (pt ld) a r b yv jb draw (pt ob), Res.nl b lv es, Res.ou ob o, yB ld ({ l with given := true } : LdD), vP l.pv l.peers, sP l.peers, vI l.av l.answered, vT l.rv l.rounds, vL l.kv l.looks, vM (.slice (some ⟨b61, 0, none⟩) 1 1) [(yP 9 0 (((zG l.peers k).2).id) 0 0 0 0 0 false (.slice none 0 0) [])], sM [(yP 9 0 (((zG l.peers k).2).id) 0 0 0 0 0 false (.slice none 0 0) [])]] (fun w' hw => hw.msg0 ⟨rfl, rfl, rfl⟩ rfl rfl) ?_
   refine zH rfl rfl (fun w' hw => (kP cb jb t a r b (pt ld) yv draw ob _ (.slice (some ⟨b61, 0, none⟩) 1 1) [(yP 9 0 (((zG l.peers k).2).id) 0 0 0 0 0 false (.slice none 0 0) [])] w' (by first | omega | (simp <;> omega) | (constructor <;> (first | omega | (simp <;> omega)))) (hw.give [0, 2, 9, 10] rfl (by decide))).mono ?_)
   rintro _ w1 ⟨mv'1_, rfl, hO⟩
   refine (?_ : CL _ _ _ _ _ _ (Own w S [Res.nl b lv es, yB ld ({ l with given := true } : LdD), vP l.pv l.peers, sP l.peers, vI l.av l.answered, vT l.rv l.rounds, vL l.kv l.looks, ze cb t (pt ld) a r b yv jb draw (pt ob), Res.ou ob ({ o with mv := mv'1_, msgs := o.msgs ++ [(yP 9 0 (((zG l.peers k).2).id) 0 0 0 0 0 false (.slice none 0 0) [])].map (z8 a t.term) } : OutD)])) w1 (hw.frameL [0, 2, 9, 10] rfl hO)
   exact zj (yM rfl (fun w' hw => ⟨mv'1_, rfl, (by rw [if_pos hp, if_pos hp]; exact (hw.starShut [1, 2, 3, 4, 5, 6] rfl (by decide)).sel [1, 0, 3, 2] rfl (by decide))⟩))
  ·
   have hp : ¬ xL l (zG l.peers k).2 es.length again := fun q => c1 (handP_iff.2 q)
   exact yk (yM rfl (fun w' hw => ⟨o.mv, rfl, (by rw [if_neg hp, if_neg hp, List.append_nil]; exact hw)⟩))
end Go.Proofs.YtkkeknmkipkbmaaGreat
