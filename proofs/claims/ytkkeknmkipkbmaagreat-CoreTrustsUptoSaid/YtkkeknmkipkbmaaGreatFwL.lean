import Derived.Test.YtkkeknmkipkbmaaGreatCoJ
import Derived.Test.YtkkeknmkipkbmaaGreatFwX
set_option linter.unusedSectionVars false
set_option linter.unusedSimpArgs false
set_option linter.unusedVariables false
set_option maxRecDepth 10000
namespace Go.Proofs.YtkkeknmkipkbmaaGreat
open Go Go.Sc Go.Proofs
theorem zIA {S : List Nat} (cb jb : Nat) (t : TimD) (a : StA) (r : RolD) (b : StB) (lead yv out : Value) (draw : Nat) (x : EntD) (pb : Nat) (w : World) (hx : x.wf) (hin : Own w S [ze cb t lead a r b yv jb draw out, Res.row pb 27 [pt cb]] w) (rd_x : EntD.rd x w S) : Rets Tryz.prog 198 #[.agg (EntD.cells x).toArray, pt pb] w fun u_ w' => u_ = .bool (decide (t.term < x.term)) ∧ Own w S [ze cb t lead a r b yv jb draw out, Res.row pb 27 [pt cb]] w' := by
  refine zT Tryz.func198 rfl Tryz.ntmps198 hin ?_
  refine zB (z7 rfl rfl (fun b2 => zK rfl (zA (yV (by kernel_rfl) (by kernel_rfl) (zL rfl (zI (o := 1) rfl) (zL rfl (zb 2 (v := Vn x.term) rfl rfl rfl) (zL rfl (zb 1 (v := pt cb) rfl rfl rfl) (zL rfl (zP rfl) (zL rfl (zI (o := 0) rfl) (zL rfl (zI (o := 0) rfl) (zL rfl (zb 0 (v := Vn t.term) rfl rfl rfl) (zL rfl (zBQ rfl rfl) ?_))))))))))))
  refine zL rfl (ya) (xN ?_)
  exact zY (yD (v := .bool (decide (((t.term : Nat) : Int) < ((x.term : Nat) : Int)))) rfl rfl (fun w' hw => ⟨(by congr 1; exact decide_eq_decide.2 (by omega)), hw.sel [0, 1] rfl (by decide)⟩))
theorem zGz {S : List Nat} (cb jb : Nat) (t : TimD) (a : StA) (r : RolD) (b : StB) (lead yv out : Value) (draw : Nat) (v : Value) (m : List EntD) (pb : Nat) (w : World) (hm : m.length ≤ 1048576) (hx : ∀ e ∈ m, e.wf) (hin : Own w S [ze cb t lead a r b yv jb draw out, Res.row pb 27 [pt cb]] w) (hv : Rd w S (Res.sl v m.length (m.flatMap EntD.cells))) (all_hv : ∀ p ∈ m, EntD.rd p w S) : Rets Tryz.prog 169 #[v, .func (.func 198) #[] #[pt pb]] w fun u_ w' => ∃ (i : Int), u_ = Vi i ∧ (0 ≤ i ↔ ∃ q ∈ m, t.term < q.term) ∧ Own w S [ze cb t lead a r b yv jb draw out, Res.row pb 27 [pt cb]] w' := by
  refine zT Tryz.func169 rfl Tryz.ntmps169 hin ?_
  refine zB (zK rfl (zA (zQ (zB (zD rfl (zq (pR hv) rfl rfl (zD rfl (zA (zc ?_)))))))))
  refine xS (fun (k : Nat) => [(0, v), (1, .func (.func 198) #[] #[pt pb]), (7, Vj m.length), (8, Vj k)]) (fun (k : Nat) => k ≤ m.length ∧ ∀ e ∈ m.take k, ¬ t.term < e.term) (fun (k : Nat) => [ze cb t lead a r b yv jb draw out, Res.row pb 27 [pt cb]]) (fun (k : Nat) => m.length - k) (fun w' hw => ⟨0, ⟨rfl, rfl, rfl, rfl, trivial⟩, ⟨Nat.zero_le _, by simp⟩, hw⟩) (fun k g hΦ => ?_)
  refine zB (yJ rfl rfl rfl (zA (zQ (zf rfl (fun c1 => ?_) (fun c1 => ?_)))))
  ·
   refine zR (zQ (zc (zB (zD rfl (zK rfl (zA (zB (zD rfl (zD rfl (zD rfl (zm (pR hv) 5 k rfl rfl rfl (by omega) rfl (kd (pR hv) 5 k (off := xF v + k * 5) (fun _ => rfl) rfl rfl (by omega) rfl ?_))))))))))))
   refine yh (fst := []) (cap := [pt pb]) rfl (by kernel_rfl) rfl rfl (fun w' hw => (zIA cb jb t a r b lead yv out draw (zG m k) pb w' (hx _ (zl (by omega))) (hw.give [0, 1] rfl (by decide)) ((all_hv _ (zl (by omega))).at hw [0, 1] rfl)).mono ?_)
   rintro _ w1 ⟨rfl, hO⟩
   refine (?_ : CL _ _ _ _ _ _ (Own w S [ze cb t lead a r b yv jb draw out, Res.row pb 27 [pt cb]])) w1 (hw.frameL [0, 1] rfl hO)
   refine zA (zf rfl (fun c2 => ?_) (fun c2 => ?_))
   ·
    refine zB (zD rfl (zK rfl (zA ?_)))
    exact zY (yD (v := Vj k) rfl rfl (fun w' hw => ⟨k, rfl, ⟨fun _ => ⟨_, zl (by omega), c2⟩, fun _ => by omega⟩, hw⟩))
   ·
    refine zR (zW (z3 rfl rfl (zy (by omega)) rfl (zD rfl ?_)))
    exact zj (fun w' hw => ⟨k + 1, ⟨rfl, rfl, rfl, rfl, trivial⟩, ⟨by omega, by rw [zu (by omega)]; intro v hv; rcases List.mem_append.1 hv with h | h; exact hΦ.2 v h; simp at h; rw [h]; exact c2⟩, hw, (by omega)⟩)
  ·
   refine yQ rfl (zB (zK rfl (zA ?_)))
   exact zY (yD (v := Vi (-1)) rfl rfl (fun w' hw => ⟨-1, rfl, ⟨fun h => by omega, fun ⟨v, h, h'⟩ => by have h2 := hΦ.2; rw [List.take_of_length_le (by omega)] at h2; exact absurd h' (h2 v h)⟩, hw⟩))
theorem zFt {S : List Nat} (cb jb : Nat) (t : TimD) (a : StA) (r : RolD) (b : StB) (lead yv out : Value) (draw : Nat) (v : Value) (m : List EntD) (pb : Nat) (w : World) (hm : m.length ≤ 1048576) (hx : ∀ e ∈ m, e.wf) (hin : Own w S [ze cb t lead a r b yv jb draw out, Res.row pb 27 [pt cb]] w) (hv : Rd w S (Res.sl v m.length (m.flatMap EntD.cells))) (all_hv : ∀ p ∈ m, EntD.rd p w S) : Rets Tryz.prog 127 #[v, .func (.func 198) #[] #[pt pb]] w fun u_ w' => u_ = .bool (decide (∃ q ∈ m, t.term < q.term)) ∧ Own w S [ze cb t lead a r b yv jb draw out, Res.row pb 27 [pt cb]] w' := by
  refine zT Tryz.func127 rfl Tryz.ntmps127 hin ?_
  refine zB (zK rfl (zA (zB (zD rfl (zD rfl (zH rfl rfl (fun w' hw => (zGz cb jb t a r b lead yv out draw v m pb w' (by first | omega | (simp <;> omega)) ‹_› (hw.give [0, 1] rfl (by decide)) (hw.rdTo hv [0, 1] rfl) (fun p hp => EntD.rd.at (all_hv p hp) hw [0, 1] rfl)).mono ?_)))))))
  rintro _ w1 ⟨i1_, rfl, hf1_2, hO⟩
  refine (?_ : CL _ _ _ _ _ _ (Own w S [ze cb t lead a r b yv jb draw out, Res.row pb 27 [pt cb]])) w1 (hw.frameL [0, 1] rfl hO)
  refine kK rfl rfl rfl (zK rfl (zA ?_))
  exact zY (yD (v := .bool (decide (0 ≤ i1_))) rfl rfl (fun w' hw => ⟨(by congr 1; exact decide_eq_decide.2 (by omega)), hw⟩))
theorem zJT {S : List Nat} (cb jb : Nat) (t : TimD) (a : StA) (r : RolD) (b : StB) (lead yv out : Value) (draw : Nat) (m : MsgD) (w : World) (hm : m.wf) (hin : Own w S [ze cb t lead a r b yv jb draw out] w) (rd_m : MsgD.rd m w S) : Rets Tryz.prog 171 #[pt cb, .agg (MsgD.cells m).toArray] w fun u_ w' => u_ = .bool (decide (∃ q ∈ m.ents, t.term < q.term)) ∧ Own w S [ze cb t lead a r b yv jb draw out] w' := by
  have hme := hm.ents
  refine zT Tryz.func171 rfl Tryz.ntmps171 hin ?_
  refine zB (z7 rfl rfl (fun b2 => z7 rfl rfl (fun b3 => zK rfl (zA (zB (zJ (o := 9) rfl rfl (zM 2 (v := m.ev) rfl rfl rfl rfl (zAs (va := []) (vb := [pt b2]) rfl rfl rfl (zH rfl rfl (fun w' hw => (zFt cb jb t a r b lead yv out draw m.ev m.ents b2 w' (by first | omega | (simp <;> omega)) hm.each (hw.give [0, 1] rfl (by decide)) (hw.rdTo rd_m.ev [0, 1] rfl) (fun p hp => EntD.rd.at (rd_m.ev_all p hp) hw [0, 1] rfl)).mono ?_))))))))))
  rintro _ w1 ⟨rfl, hO⟩
  refine (?_ : CL _ _ _ _ _ _ (Own w S [Res.row b3 59 (MsgD.cells m), ze cb t lead a r b yv jb draw out, Res.row b2 27 [pt cb]])) w1 (hw.frameL [0, 1] rfl hO)
  refine zK rfl (zA ?_)
  exact zY (yD (v := .bool (decide (∃ q ∈ m.ents, t.term < q.term))) rfl rfl (fun w' hw => ⟨rfl, hw.sel [1] rfl (by decide)⟩))
theorem zCg {S : List Nat} (cb jb : Nat) (t : TimD) (a : StA) (r : RolD) (b : StB) (lead yv : Value) (draw : Nat) (ob : Nat) (o : OutD) (m : MsgD) (kind : Int) (idx lt : Nat) (flag : Bool) (w : World) (ho : o.msgs.length ≤ 100000) (hin : Own w S [ze cb t lead a r b yv jb draw (pt ob), Res.ou ob o] w) (rd_m : MsgD.rd m w S) : Rets Tryz.prog 170 #[pt cb, .agg (MsgD.cells m).toArray, .agg #[Vi kind, Vi 0, Vi 0, Vn 0, Vn idx, Vn lt, Vn 0, Vn 0, .bool flag, .slice none 0 0, .slice none 0 0, .slice none 0 0, Vi 0, .slice none 0 0]] w fun u_ w' => ∃ (mv' : Value), u_ = .tuple #[] ∧ Own w S [ze cb t lead a r b yv jb draw (pt ob), Res.ou ob ({ o with mv := mv', msgs := o.msgs ++ [z8 a t.term (yP kind 0 m.src 0 idx lt 0 m.round flag (.slice none 0 0) [])] } : OutD)] w' := by
  refine zT Tryz.func170 rfl Tryz.ntmps170 hin ?_
  refine zB (z7 rfl rfl (fun b4 => z7 rfl rfl (fun b5 => zA (zQ (zk [0, 1, 2] rfl (by decide) (by kernel_rfl) (fun w' hw hS => zC 0 rfl (zI (o := 1) rfl) hS (zC 1 rfl (zb 2 (v := Vi m.src) rfl rfl rfl) hS (zC 2 rfl (zI (o := 7) rfl) hS (zC 3 rfl (zb 2 (v := Vn m.round) rfl rfl rfl) hS (zC 4 rfl (zI (o := 2) rfl) hS (zN 5 rfl hw (zo 3 rfl rfl rfl rfl rfl ?_))))))))))))
  refine zE [0, 1, 2] rfl (by decide) (fun w' hw hS => zC 6 rfl (zI (o := 7) rfl) hS (zN 7 rfl hw (zo 3 rfl rfl rfl rfl rfl (zE [0, 1, 2] rfl (by decide) (fun w' hw hS => zX ?_)))))
  refine (?_ : C _ _ _ _ _ _ _ (Own w S [ze cb t lead a r b yv jb draw (pt ob), Res.ou ob o, Res.row b4 59 (MsgD.cells m), Res.row b5 59 [Vi kind, Vi 0, Vi m.src, Vn 0, Vn idx, Vn lt, Vn 0, Vn m.round, .bool flag, .slice none 0 0, .slice none 0 0, .slice none 0 0, Vi 0, .slice none 0 0]])) _ hw
  refine zW (zD rfl (yY 3 rfl rfl rfl (z4 (e := 59) (sz := 14) (vs := [.agg #[Vi kind, Vi 0, Vi m.src, Vn 0, Vn idx, Vn lt, Vn 0, Vn m.round, .bool flag, .slice none 0 0, .slice none 0 0, .slice none 0 0, Vi 0, .slice none 0 0]]) (by kernel_rfl) rfl rfl (by simp [Value.cells, MsgD.cells, ConfD.cells]) (by decide) rfl (fun b14 => ?_))))
  refine zx [ze cb t lead a r b yv jb draw (pt ob), Res.ou ob o, Res.row b4 59 (MsgD.cells m), Res.row b5 59 [Vi kind, Vi 0, Vi m.src, Vn 0, Vn idx, Vn lt, Vn 0, Vn m.round, .bool flag, .slice none 0 0, .slice none 0 0, .slice none 0 0, Vi 0, .slice none 0 0], vM (.slice (some ⟨b14, 0, none⟩) 1 1) [(yP kind 0 m.src 0 idx lt 0 m.round flag (.slice none 0 0) [])], sM [(yP kind 0 m.src 0 idx lt 0 m.round flag (.slice none 0 0) [])]] (fun w' hw => hw.msg0 ⟨rfl, rfl, rfl⟩ rfl rfl) ?_
  refine zH rfl rfl (fun w' hw => (kP cb jb t a r b lead yv draw ob _ (.slice (some ⟨b14, 0, none⟩) 1 1) [(yP kind 0 m.src 0 idx lt 0 m.round flag (.slice none 0 0) [])] w' (by first | omega | (simp <;> omega) | (constructor <;> (first | omega | (simp <;> omega)))) (hw.give [0, 1, 4, 5] rfl (by decide))).mono ?_)
  rintro _ w1 ⟨mv'1_, rfl, hO⟩
  refine (?_ : CL _ _ _ _ _ _ (Own w S [Res.row b4 59 (MsgD.cells m), Res.row b5 59 [Vi kind, Vi 0, Vi m.src, Vn 0, Vn idx, Vn lt, Vn 0, Vn m.round, .bool flag, .slice none 0 0, .slice none 0 0, .slice none 0 0, Vi 0, .slice none 0 0], ze cb t lead a r b yv jb draw (pt ob), Res.ou ob ({ o with mv := mv'1_, msgs := o.msgs ++ [(yP kind 0 m.src 0 idx lt 0 m.round flag (.slice none 0 0) [])].map (z8 a t.term) } : OutD)])) w1 (hw.frameL [0, 1, 4, 5] rfl hO)
  exact zj (yM rfl (fun w' hw => ⟨mv'1_, rfl, hw.sel [2, 3] rfl (by decide)⟩))
def y5 (F : ConfA) (yes : List Int) (id : Int) : List Int := if (F.ok ∧ id ∈ F.vs) ∧ ¬ id ∈ yes then yes ++ [id] else yes
theorem zDC {F : ConfA} {yes : List Int} {id : Int} (h : F.ok ∧ id ∈ F.vs) (h2 : ¬ id ∈ yes) : y5 F yes id = yes ++ [id] := if_pos ⟨h, h2⟩
theorem zBO {F : ConfA} {yes : List Int} {id : Int} (h : ¬ (F.ok ∧ id ∈ F.vs) ∨ id ∈ yes) : y5 F yes id = yes := if_neg (fun q => by rcases h with h | h; exact h q.1; exact q.2 h)
theorem zE5 {S : List Nat} (cb jb : Nat) (t : TimD) (a : StA) (r : RolD) (b : StB) (lead yv out : Value) (draw : Nat) (lv : Value) (es : List EntD) (yes : List Int) (id : Int) (w : World) (hg : (LG 0 0 es).good) (hl : es.length ≤ 1000000) (hvl : b.vs.length ≤ 12) (hy : yes.length ≤ 100000) (hin : Own w S [ze cb t lead a r b yv jb draw out, Res.nl b lv es, vI yv yes] w) : Rets Tryz.prog 86 #[pt cb, Vi id] w fun u_ w' => ∃ (yv' : Value), u_ = .bool (decide (((za b.vs (es.map EntD.toEntA)).ok ∧ id ∈ (za b.vs (es.map EntD.toEntA)).vs) ∧ (za b.vs (es.map EntD.toEntA)).quorum (y5 (za b.vs (es.map EntD.toEntA)) yes id))) ∧ Own w S [ze cb t lead a r b yv' jb draw out, Res.nl b lv es, vI yv' (y5 (za b.vs (es.map EntD.toEntA)) yes id)] w' := by
  refine zT Tryz.func86 rfl Tryz.ntmps86 hin ?_
  refine zB (zK rfl (zA (zB (zD rfl (zH rfl rfl (fun w' hw => (xW cb jb t a r b lead yv out draw _ _ w' ‹_› (by first | omega | (simp <;> omega)) (by first | omega | (simp <;> omega)) (hw.give [0, 1] rfl (by decide))).mono ?_))))))
  rintro _ w1 ⟨cv1_, cw2_, F3_, rfl, hf1_1, hO⟩
  have hFl : F3_.vs.length ≤ 1000 ∧ F3_.ls.length ≤ 1000 := by rw [hf1_1]; exact yi (by omega)
  refine (?_ : CL _ _ _ _ _ _ (Own w S [vI yv yes, ze cb t lead a r b yv jb draw out, Res.nl b lv es, vI cv1_ F3_.vs, vI cw2_ F3_.ls])) w1 (hw.frameL [0, 1] rfl hO)
  refine yS (v := .agg #[.slice none 0 0, .slice none 0 0]) (by kernel_rfl) rfl (fun b5 => ?_)
  refine zg (fun w' hw => Own.cell1Vec (i := 3) rfl hw) (fun hc1_ => ?_)
  refine zg (fun w' hw => Own.cell1Vec (i := 4) rfl hw) (fun hc2_ => ?_)
  refine yH 5 rfl rfl rfl (zF hc1_ (zF hc2_ zw)) rfl (zA (zQ (zB (yY (cs := [cv1_, cw2_]) 5 rfl rfl rfl (zD rfl (zH rfl rfl (fun w' hw => (zCZ ({ vv := cv1_, vs := F3_.vs, lv := cw2_, ls := F3_.ls } : ConfD) id w' (by first | assumption | omega | (simp <;> omega) | (constructor <;> (first | omega | (simp only [zd]; omega) | (simp <;> omega)))) ⟨(hw.rdVec0 3 rfl), (hw.rdVec0 4 rfl)⟩).mono ?_)))))))
  rintro _ w1 ⟨rfl, hO⟩
  refine (?_ : CL _ _ _ _ _ _ (Own w S [vI yv yes, ze cb t lead a r b yv jb draw out, Res.nl b lv es, vI cv1_ F3_.vs, vI cw2_ F3_.ls, Res.row b5 35 [cv1_, cw2_]])) w1 (hw.frame0 hO)
  refine xM (q := ({ vv := cv1_, vs := F3_.vs, lv := cw2_, ls := F3_.ls } : ConfD).ok ∧ id ∈ ({ vv := cv1_, vs := F3_.vs, lv := cw2_, ls := F3_.ls } : ConfD).vs) rfl rfl (zA (zf rfl (fun c1 => ?_) (fun c1 => ?_)))
  ·
   have hc : ¬ ((za b.vs (es.map EntD.toEntA)).ok ∧ id ∈ (za b.vs (es.map EntD.toEntA)).vs) := by rw [← hf1_1]; exact c1
   refine zB (zK rfl (zA ?_))
   exact zY (yD (v := .bool false) rfl rfl (fun w' hw => ⟨yv, (by rw [decide_eq_false]; exact fun h => hc h.1), (by rw [zBO (.inl hc)]; exact hw.sel [1, 2, 0] rfl (by decide))⟩))
  ·
   have hc : (za b.vs (es.map EntD.toEntA)).ok ∧ id ∈ (za b.vs (es.map EntD.toEntA)).vs := by rw [← hf1_1]; exact Decidable.not_not.1 c1
   refine zR (zQ (zB (zD rfl (zh rfl rfl (zJ (o := 30) rfl rfl (zM 1 (v := yv) rfl rfl rfl rfl (zD rfl (zH rfl rfl (fun w' hw => (jS yv yes id w' (by first | assumption | omega | (simp <;> omega) | (constructor <;> (first | omega | (simp only [zd]; omega) | (simp <;> omega)))) (hw.rdVec0 0 rfl)).mono ?_)))))))))
   rintro _ w1 ⟨rfl, hO⟩
   refine (?_ : CL _ _ _ _ _ _ (Own w S [vI yv yes, ze cb t lead a r b yv jb draw out, Res.nl b lv es, vI cv1_ F3_.vs, vI cw2_ F3_.ls, Res.row b5 35 [cv1_, cw2_]])) w1 (hw.frame0 hO)
   refine xM (q := id ∈ yes) rfl rfl (zA (zf rfl (fun c2 => ?_) (fun c2 => ?_)))
   ·
    refine zW (zD rfl (zD rfl (zh rfl rfl (zJ (o := 30) rfl rfl (zM 1 (v := yv) rfl rfl rfl rfl (zD rfl (z4 (e := 3) (sz := 1) (vs := [Vi id]) (by kernel_rfl) rfl rfl (by simp [Value.cells]) (by decide) rfl (fun b25 => yO (g := I1) (sz := 1) (by' := 8) (fun _ => rfl) (l := yes) (l' := [id]) (by simp [cell1, I1]) 0 (by kernel_rfl) rfl rfl rfl (fun w' hw' => Vec.sl (Own.holds hw' 6 _ rfl)) (by first | omega | (simp <;> omega)) (by decide) rfl (fun v26 => zh rfl rfl (zJ (o := 30) rfl rfl ?_))))))))))
    refine zg (fun w' hw => Own.cell1Vec (i := 0) rfl hw) (fun hc3_ => ?_)
    refine zo 1 rfl rfl rfl hc3_ rfl (zA (zQ (zk [0, 1, 2, 3, 4, 5, 6] rfl (by decide) (by kernel_rfl) (fun w' hw hS => zC 0 rfl (xp (cs := [cv1_, cw2_]) 5 rfl rfl) hS (zC 1 rfl (zU) hS (zC 2 rfl (zP rfl) hS (zC 3 rfl (zI (o := 30) rfl) hS (zC 4 rfl (zb 1 (v := v26) rfl rfl rfl) hS (zN 5 rfl hw (zH rfl rfl (fun w' hw => (yu ({ vv := cv1_, vs := F3_.vs, lv := cw2_, ls := F3_.ls } : ConfD) v26 (yes ++ [id]) w' (by first | assumption | omega | (simp <;> omega) | (constructor <;> (first | omega | (simp only [zd]; omega) | (simp <;> omega)))) (by first | assumption | omega | (simp <;> omega) | (constructor <;> (first | omega | (simp only [zd]; omega) | (simp <;> omega)))) (hw.rdVec0 0 rfl) ⟨(hw.rdVec0 3 rfl), (hw.rdVec0 4 rfl)⟩).mono ?_)))))))))))
    rintro _ w1 ⟨rfl, hO⟩
    refine (?_ : CL _ _ _ _ _ _ (Own w S [vI v26 (yes ++ [id]), ze cb t lead a r b v26 jb draw out, Res.nl b lv es, vI cv1_ F3_.vs, vI cw2_ F3_.ls, Res.row b5 35 [cv1_, cw2_], vI (.slice (some ⟨b25, 0, none⟩) 1 1) [id]])) w1 (hw.frame0 hO)
    refine zE [0, 1, 2, 3, 4, 5, 6] rfl (by decide) (fun w' hw hS => zC 6 rfl (ya) hS (zX ?_))
    refine (?_ : C _ _ _ _ _ _ _ (Own w S [vI v26 (yes ++ [id]), ze cb t lead a r b v26 jb draw out, Res.nl b lv es, vI cv1_ F3_.vs, vI cw2_ F3_.ls, Res.row b5 35 [cv1_, cw2_], vI (.slice (some ⟨b25, 0, none⟩) 1 1) [id]])) _ hw
    exact zY (yD (v := .bool (decide (({ vv := cv1_, vs := F3_.vs, lv := cw2_, ls := F3_.ls } : ConfD).quorum (yes ++ [id])))) rfl rfl (fun w' hw => ⟨v26, (by congr 1; exact decide_eq_decide.2 (by rw [zDC hc c2, ← hf1_1]; exact ⟨fun h => ⟨by rw [hf1_1]; exact hc, h⟩, fun h => h.2⟩)), (by rw [zDC hc c2]; exact hw.sel [1, 2, 0] rfl (by decide))⟩))
   ·
    have c2 := Decidable.not_not.1 c2
    refine zR (zQ (zk [0, 1, 2, 3, 4, 5] rfl (by decide) (by kernel_rfl) (fun w' hw hS => zC 0 rfl (xp (cs := [cv1_, cw2_]) 5 rfl rfl) hS (zC 1 rfl (zU) hS (zC 2 rfl (zP rfl) hS (zC 3 rfl (zI (o := 30) rfl) hS (zC 4 rfl (zb 1 (v := yv) rfl rfl rfl) hS (zN 5 rfl hw (zH rfl rfl (fun w' hw => (yu ({ vv := cv1_, vs := F3_.vs, lv := cw2_, ls := F3_.ls } : ConfD) yv yes w' (by first | assumption | omega | (simp <;> omega) | (constructor <;> (first | omega | (simp only [zd]; omega) | (simp <;> omega)))) (by first | assumption | omega | (simp <;> omega) | (constructor <;> (first | omega | (simp only [zd]; omega) | (simp <;> omega)))) (hw.rdVec0 0 rfl) ⟨(hw.rdVec0 3 rfl), (hw.rdVec0 4 rfl)⟩).mono ?_))))))))))
    rintro _ w1 ⟨rfl, hO⟩
    refine (?_ : CL _ _ _ _ _ _ (Own w S [vI yv yes, ze cb t lead a r b yv jb draw out, Res.nl b lv es, vI cv1_ F3_.vs, vI cw2_ F3_.ls, Res.row b5 35 [cv1_, cw2_]])) w1 (hw.frame0 hO)
    refine zE [0, 1, 2, 3, 4, 5] rfl (by decide) (fun w' hw hS => zC 6 rfl (ya) hS (zX ?_))
    refine (?_ : C _ _ _ _ _ _ _ (Own w S [vI yv yes, ze cb t lead a r b yv jb draw out, Res.nl b lv es, vI cv1_ F3_.vs, vI cw2_ F3_.ls, Res.row b5 35 [cv1_, cw2_]])) _ hw
    exact zY (yD (v := .bool (decide (({ vv := cv1_, vs := F3_.vs, lv := cw2_, ls := F3_.ls } : ConfD).quorum yes))) rfl rfl (fun w' hw => ⟨yv, (by congr 1; exact decide_eq_decide.2 (by rw [zBO (.inr c2), ← hf1_1]; exact ⟨fun h => ⟨by rw [hf1_1]; exact hc, h⟩, fun h => h.2⟩)), (by rw [zBO (.inr c2)]; exact hw.sel [1, 2, 0] rfl (by decide))⟩))
end Go.Proofs.YtkkeknmkipkbmaaGreat
set_option linter.unusedVariables false
namespace Go.Sc
open Go
theorem zAr {P : Program} {w : World} (t ti ty e : TypeId) (i : TypeInfo) (z : Value) (ht : P.underlying t = some (.slice e)) (hti : P.underlying ti = some (.int .i64)) (hi : P.info? e = some i) (hz : i.zero = some z) (hs : i.size = 1)
    {n : Nat} (h0 : 0 < n) (h63 : (n : Int) ≤ 4611686018427387904) (h48 : n * i.bytes ≤ 281474976710656) :
    (Builtin.append_ #[t, ti] ty #[.slice none 0 0, .int .i64 (n : Int)]).run P w =
      .ok (.slice (some ⟨w.heap.size, 0, none⟩) n (grownCap w n 0 e)) (w.drew.alloc (.cells (Builtin.zeroCells z.cells n ++ Builtin.zeroCells z.cells (grownCap w n 0 e - n)) e)) := by
  have hn : n ≠ 0 := by omega
  have hw : IntKind.i64.wrap (n : Int) = (n : Int) := zy (by omega)
  have h63' : ¬ (9223372036854775807 < (n : Int)) := by omega
  have hneg : ¬ ((n : Int) < 0) := by omega
  have h48a : ¬ (281474976710656 < (n : Int) * (i.bytes : Int)) := by
    have e : (n : Int) * (i.bytes : Int) = ((n * i.bytes : Nat) : Int) := (Int.natCast_mul n i.bytes).symm
    rw [e]; omega
  have h48' : ¬ (281474976710656 < Builtin.nextslicecap n 0 * i.bytes) := by rw [nextslicecap_zero h0]; omega
  simp [Builtin.append_, yF ht, yF hti, sizeOf, typeInfo, zeroValue, hi, hz, hs, asInt, asIntOf, hw, hn, hneg, h63', h48a, h48', Question.forced, run_firstCells_none, newRow, grownCap]
section
variable {P : Program} {n : Nat} {ops : Array Oper} {N : K} {f : Nat → Value} {A : World → Prop} {rest : List Oper} {w0 : World} {S : List Nat} {L : List Res}
variable {d : Nat} {ty : TypeId} {p : String} {af : Array Edge} {x y : Operand} {t ti e : TypeId} {by' : Nat}
theorem zJO {α : Type} {g : α → List Value} {z : α} {zv : Value} {m : Nat} (ht : slT P t = some (e, 1, by')) (hti : zFf P ti = some .i64) (hz : zEq P e = some zv) (hc : zv.cells = #[zv]) (hg : g z = [zv]) (hx : ev f x = .slice none 0 0) (hy : ev f y = .int .i64 (m : Int)) (h0 : 0 < m) (hm : m ≤ 1000000000000) (hb : m * by' ≤ 140737488355328) (hd : Nat.blt d n = true)
    (k : ∀ b c, m ≤ c → CL P n ops rest N (upd f d (.slice (some ⟨b, 0, none⟩) m c)) (Own w0 S (L ++ [Res.vec e 1 (.slice (some ⟨b, 0, none⟩) m c) (List.replicate m z).length ((List.replicate m z).flatMap g)]))) :
    CL P n ops (⟨some d, .call ⟨.builtin .append, #[x, y], #[t, ti]⟩, ty, p, af, none⟩ :: rest) N f (Own w0 S L) := by
  intro w hw
  obtain ⟨hu, i, z', hi, hz', hs, hby, hzs, hsz⟩ := jO ht
  have e0 : z' = zv := by
    simp only [zEq, hi, Option.bind_some, hz'] at hz
    exact Option.some.inj hz
  subst e0
  subst hby
  have hti' : P.underlying ti = some (.int .i64) := by
    unfold zFf at hti
    split at hti
    · rename_i k' hk'; cases hti; exact hk'
    · cases hti
  have hmx := yz
  have hr := zAr (P := P) (w := w) t ti ty e i z' hu hti' hi hz' hs h0 (by omega) (by omega)
  have hge := grownCap_ge w m 0 e
  have hcm : grownCap w m 0 e ≤ maxLen := grownCap_le_maxLen w m 0 e (by rw [hmx]; omega)
  have hrow : (Builtin.zeroCells z'.cells m).toList = (List.replicate m z).flatMap g := by
    rw [hc]
    simp only [Builtin.zeroCells, List.flatMap, hg]
    have e2 : (fun i : Nat => [z'][i % 1]?.getD default) = fun _ => z' := by funext i; rw [Nat.mod_one]; rfl
    simp
    rw [e2, List.map_const', List.length_range, hg]; simp
  have hO : Own w [] [Res.vec e 1 (.slice (some ⟨w.heap.size, 0, none⟩) m (grownCap w m 0 e)) (List.replicate m z).length ((List.replicate m z).flatMap g)] (w.drew.alloc (.cells (Builtin.zeroCells z'.cells m ++ Builtin.zeroCells z'.cells (grownCap w m 0 e - m)) e)) := by
    refine Own.mk1 ⟨rfl, rfl, rfl, by simp, fun k hk _ => heap_alloc_old w.drew _ hk⟩ ?_ (fun b hb => by simp [Res.vec, yp] at hb; right; omega)
    rw [List.length_replicate]
    refine ⟨by rw [← hrow, Array.length_toList, size_zeroCells, hzs], .inr ⟨w.heap.size, _, _, rfl, Nat.zero_le _, heap_alloc_new w.drew _, hge, hcm, ?_, ?_⟩⟩
    · simp only [Array.size_append, size_zeroCells, hzs]; omega
    · rw [Array.toList_append, hrow]
      exact List.take_left' (by rw [← hrow, Array.length_toList, size_zeroCells, hzs])
  refine kJ (w' := _) ?_ hd (k w.heap.size _ hge _ (hw.frame0 hO))
  simp [execOp, resolve, invoke, builtin, hx, hy, hr]
theorem zJt (ht : x1 P t = true) (hx : ev f x = .slice none 0 0) : RV P f ⟨some d, .call ⟨.builtin .cap, #[x], #[t]⟩, ty, p, af, none⟩ A (.int .i64 0) := by
  intro w _
  unfold x1 at ht
  split at ht
  · rename_i e he
    simp [execOp, resolve, invoke, builtin, hx, Builtin.cap_, yF he, goInt]
  · cases ht
theorem zHm (ht : x1 P t = true) (hx : ev f x = .slice none 0 0) (hd : Nat.blt d n = true) (k : CL P n ops rest N (upd f d (.int .i64 0)) A) : CL P n ops (⟨some d, .call ⟨.builtin .cap, #[x], #[t]⟩, ty, p, af, none⟩ :: rest) N f A := yN hd (zJt ht hx) k
theorem zCf (l : List Int) : l.flatMap I1 = l.map (Value.int .i64) := by induction l <;> simp_all [I1]
theorem Own.vecCutL {w : World} {T : TypeId} {v : Value} {l : List Int} (i k : Nat) (hL : L[i]? = some (Res.vec T 1 v l.length (l.flatMap I1))) (hk : k ≤ l.length) (h : Own w0 S L w) : Own w0 S (L.set i (Res.vec T 1 (xi v 0 k 1) (l.take k).length ((l.take k).flatMap I1))) w := by
  refine h.turn hL ?_ ?_
  · rintro ⟨hl, ⟨rfl, h1⟩ | ⟨g, cap, cur, rfl, h0, h1, h2, h3, h4, h5⟩⟩
    · have : l = [] := List.eq_nil_of_length_eq_zero h1
      subst this
      have hk0 : k = 0 := by simpa using hk
      subst hk0
      exact ⟨rfl, .inl ⟨rfl, rfl⟩⟩
    · have e : xi (.slice (some ⟨g, 0, none⟩) l.length cap) 0 k 1 = .slice (some ⟨g, 0, none⟩) k cap := by
        show jK (some ⟨g, 0, none⟩) cap 0 k cap 1 = _
        unfold jK
        simp [Addr.add]
      rw [e]
      have hlk : (l.take k).length = k := by simp; omega
      refine ⟨by rw [zCf, List.length_map]; omega, .inr ⟨g, cap, cur, by rw [hlk], h0, h1, by omega, h3, h4, ?_⟩⟩
      rw [hlk, zCf, List.map_take, ← zCf, ← h5, List.take_take]
      congr 1; omega
  · intro b hb
    have : yp (xi v 0 k 1) = yp v ∨ yp (xi v 0 k 1) = [] := by
      cases v with
      | slice a m cap => left; show yp (jK a cap 0 k cap 1) = _; exact zC3 a m cap 0 k cap 1
      | _ => left; rfl
    rcases this with h1 | h1
    · show b ∈ yp v; rw [← h1]; exact hb
    · have hb' : b ∈ yp (xi v 0 k 1) := hb
      rw [h1] at hb'; cases hb'
end
end Go.Sc
