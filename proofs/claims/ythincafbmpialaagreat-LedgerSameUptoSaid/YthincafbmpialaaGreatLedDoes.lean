import Derived.Test.YthincafbmpialaaGreatLedA
import Derived.Test.YthincafbmpialaaGreatLqT
import Derived.Test.YthincafbmpialaaGreatLedRt
import Derived.Test.YthincafbmpialaaGreatRead
set_option linter.unusedSectionVars false
set_option linter.unusedSimpArgs false
set_option linter.unusedVariables false
set_option maxRecDepth 10000
namespace Go.Proofs.YthincafbmpialaaGreat
open Go Go.Sc Go.Proofs
theorem zIQ {S : List Nat} (b tb cb idx : Nat) (w : World) (hin : Own w S [Res.row b 66 [.pointer (some ⟨tb, 0, none⟩), .pointer (some ⟨cb, 0, none⟩), Vn idx]] w) : Rets Tryz.prog 19 #[.pointer (some ⟨b, 0, none⟩)] w fun u_ w' => u_ = Vn idx ∧ Own w S [Res.row b 66 [.pointer (some ⟨tb, 0, none⟩), .pointer (some ⟨cb, 0, none⟩), Vn idx]] w' := by
  refine zb Tryz.func19 rfl Tryz.ntmps19 hin ?_
  refine zB (zD rfl (zA (zL (zB (zC rfl (yz (by kernel_rfl) rfl rfl rfl (zA (xO rfl (zM (zB (zC rfl (zr rfl rfl ?_))))))))))))
  refine zX (o := 2) rfl rfl (zY 0 (v := Vn idx) rfl rfl rfl rfl (zD rfl (zA ?_)))
  exact zP (z8 (v := Vn idx) rfl rfl (fun w' hw => ⟨rfl, hw⟩))
theorem zKb {S : List Nat} (b bm lm : Nat) (now : Int) (cnt : Nat) (w : World) (hin : Own w S [Res.row b 111 [.map (some bm), .map (some lm), Vi now, Vn cnt]] w) : Rets Tryz.prog 47 #[.pointer (some ⟨b, 0, none⟩)] w fun u_ w' => u_ = Vi now ∧ Own w S [Res.row b 111 [.map (some bm), .map (some lm), Vi now, Vn cnt]] w' := by
  refine zb Tryz.func47 rfl Tryz.ntmps47 hin ?_
  refine zB (zD rfl (zA (zL (zB (zC rfl (yz (by kernel_rfl) rfl rfl rfl (zA (xO rfl (zM (zB (zC rfl (zr rfl rfl ?_))))))))))))
  refine zX (o := 2) rfl rfl (zY 0 (v := Vi now) rfl rfl rfl rfl (zD rfl (zA ?_)))
  exact zP (z8 (v := Vi now) rfl rfl (fun w' hw => ⟨rfl, hw⟩))
structure EntOk (x : EntD) : Prop where
  wf : x.wf
  delta : xD x.delta
theorem LSt.app {idx : Nat} {now : Int} {cnt : Nat} {kb : List (ByteArray × Int)} {kl : List (Nat × LeaD)} {kr : List (Nat × RepD)} {idx2 : Nat} {now2 : Int} {cnt2 : Nat} {bs : List BudD} {ls : List LeaD} {rs : List RepD} {x y : EntA} {r s : RepD} {has had : Bool} {e f : Int} {idx' : Nat} {now' : Int} {cnt' : Nat} {kb' : List (ByteArray × Int)} {kl' : List (Nat × LeaD)} {kr' : List (Nat × RepD)} {idx3 : Nat} {now3 : Int} {cnt3 : Nat} {bs' : List BudD} {ls' : List LeaD} {rs' : List RepD}
    (h : LSt idx now cnt kb kl kr idx2 now2 cnt2 bs ls rs) (hxy : x = y) (hd : xD x.delta) (hn : cnt2 < 1000000000) (h1 : zI7 idx now cnt kb kl kr x r has e idx' now' cnt' kb' kl' kr') (h2 : zK6 idx2 now2 cnt2 bs ls rs y s had f idx3 now3 cnt3 bs' ls' rs') :
    (r = s ∧ has = had ∧ e = f) ∧ LSt idx' now' cnt' kb' kl' kr' idx3 now3 cnt3 bs' ls' rs' ∧ cnt3 ≤ cnt2 + 1 ∧ idx3 ≤ idx2 + 1 := by
  obtain ⟨rfl, rfl, rfl, ho, hr⟩ := h
  subst hxy
  have hi : idx3 ≤ idx + 1 := by
    rcases h2 with h2 | h2
    · have := h2.2.2.2.1; omega
    · have := h2.1.2; have := h2.2.2.1; omega
  obtain ⟨q1, q2, q3, q4, q5, q6, q7, q8, q9⟩ := zIq ho hr hd hn h1 h2
  exact ⟨⟨q1, q2, q3⟩, ⟨q4, q5, q6, q8, q7⟩, q9, hi⟩
theorem zMO {es : List EntD} (h : es.length = 1) : es = [zI es 0] := by
  obtain ⟨x, rfl⟩ := List.length_eq_one_iff.1 h
  rfl
theorem zLk {l es : List EntD} {i : Nat} (hi : i < l.length) (h : es.map EntD.toEntA = ((l.take (i + 1)).drop i).map EntD.toEntA) : es.length = 1 ∧ (zI es 0).toEntA = (zI l i).toEntA := by
  have e : (l.take (i + 1)).drop i = [zI l i] := by
    rw [yD hi, List.drop_append_of_le_length (by rw [List.length_take]; omega), List.drop_of_length_le (by rw [List.length_take]; omega)]; rfl
  rw [e] at h
  obtain ⟨x, rfl, hx⟩ := List.map_eq_singleton_iff.1 (h.trans rfl)
  exact ⟨rfl, hx⟩
theorem zHX (v : Value) (l : List EntD) (w : World) (hw1 : ∀ x ∈ l, EntOk x) (hl : l.length ≤ 10000000) (hv : Rd w [] (Res.sl v l.length (l.flatMap EntD.cells))) (all_hv : ∀ p ∈ l, EntD.rd p w []) : Rets Tryz.prog 12 #[v] w fun u_ w' => ∃ (r : Value) (es : List EntD), u_ = r ∧ es.length ≤ 200 ∧ (∀ x ∈ es, EntOk x) ∧ Own w [] [Res.vec 57 5 r es.length (es.flatMap EntD.cells), Res.star (es.map EntD.dres)] w' := by
  refine zb Tryz.func12 rfl Tryz.ntmps12 (Own.start w) ?_
  refine zB (zD rfl (zA (zB (zD rfl (zA (zL (zB (zD rfl (zA (zQ ?_))))))))))
  refine xI (fun (i : Nat) (r : Value) (es : List EntD) => [(0, v), (3, r), (4, Vj i)]) (fun (i : Nat) (r : Value) (es : List EntD) => (i ≤ l.length ∧ i ≤ 200 ∧ es.length = i) ∧ ∀ x ∈ es, EntOk x) (fun (i : Nat) (r : Value) (es : List EntD) => [Res.vec 57 5 r es.length (es.flatMap EntD.cells), Res.star (es.map EntD.dres)]) (fun (i : Nat) (r : Value) (es : List EntD) => l.length - i) (fun w' hw => ⟨0, .slice none 0 0, [], ⟨rfl, rfl, rfl, trivial⟩, ⟨⟨by omega, by omega, rfl⟩, fun x hx => nomatch hx⟩, (Own.starNil (yQ hw 57 5))⟩) (fun i r es g hΦ => ?_)
  have hi1 := hΦ.1
  have he2 := hΦ.2
  have hdw : ∀ x ∈ (l.take (i + 1)).drop i, x.data.length ≤ 1000000000 := fun x hx => (hw1 x (List.mem_of_mem_take (List.mem_of_mem_drop hx))).wf.data
  refine zL (zB (zC rfl (zC rfl (yO (pR hv) rfl rfl (yZ rfl rfl rfl (zC rfl (yW (q := ((i : Nat) : Int) < ((l.length : Nat) : Int)) 2 4 [12, 11] (((i : Nat) : Int) < 200) rfl rfl rfl rfl rfl rfl trivial rfl (fun h3_4 => ?_) (fun g3_7 => ?_))))))))
  ·
   refine zS rfl (gT h3_4) (zC rfl (zS rfl (gT h3_4) (yZ rfl rfl rfl ?_)))
   exact ya rfl (fun _ hw => hw)
  refine zA (zZ rfl (fun c1 => ?_) (fun c1 => ?_))
  ·
   refine zM (zL (zQ (zB (zC rfl (zC rfl (zC rfl (z6 rfl rfl (zz (by omega)) rfl (zDk (pR hv) 5 i (i + 1) (by kernel_rfl) rfl ⟨_, rfl⟩ ⟨_, rfl⟩ (by omega) (by omega) rfl ?_))))))))
   have hs1_ := Rd.subL_f (g := EntD.cells) (xs := l) (sz := 5) (fun _ => rfl) hv (l := i) (h := i + 1) (by omega) (by omega)
   refine zK rfl rfl (fun w' hw => (zF9 (zAP v i (i + 1) 5) ((l.take (i + 1)).drop i) w' (by rw [List.length_drop, List.length_take]; omega) hdw (hw.rd0 hs1_) (zHD (zIH (fun p hp => EntD.rd.at0 (all_hv p hp) hw)))).mono ?_)
   rintro r2_ w1 ⟨_, es3_, rfl, hf5_5, hO⟩
   have hil : i < l.length := by omega
   have ho1 := zLk hil hf5_5
   have hj0 := ho1.1
   have hei := hw1 _ (yH hil)
   have hex : es3_.map EntD.dres = [({ (zI es3_ 0) with index := i + 1 } : EntD)].map EntD.dres := by rw [zMO hj0]; rfl
   refine (?_ : CL _ _ _ _ _ _ (Own w [] [Res.vec 57 5 r es.length (es.flatMap EntD.cells), Res.star (es.map EntD.dres), Res.vec 57 5 r2_ es3_.length (es3_.flatMap EntD.cells), Res.star (es3_.map EntD.dres)])) w1 (hw.frame0 hO)
   refine zH (pV 2 rfl) 5 0 rfl rfl rfl (by omega) rfl (jA (pV 2 rfl) 5 0 (off := xZ r2_ + 0 * 5) (fun _ => rfl) rfl (by omega) (by omega) rfl (yL (v := .agg #[Vn 0, Vn 0, Vi 0, Vi 0, .slice none 0 0]) (by kernel_rfl) rfl (fun b5 => ?_)))
   refine yu (fun w' hw => Sl.cell1 (Rd.φ (EntD.rd.star0 3 rfl hw _ (yH (l := es3_) (j := 0) (by omega))).dv)) (fun hc1_ => ?_)
   refine zo 4 rfl rfl rfl (zx rfl (zx rfl (zx rfl (zx rfl (zx hc1_ xB))))) rfl (zA (zB (zC rfl (z6 rfl rfl (zz (by omega)) rfl (yv (by kernel_rfl) rfl (kq (by omega)) rfl ?_ (by kernel_rfl))))))
   refine zX (o := 0) rfl rfl (xr (cs := (EntD.cells (zI es3_ 0))) 4 rfl rfl rfl rfl rfl (zA (zj (zC rfl (yd 4 rfl rfl rfl (xF (e := 57) (sz := 5) (vs := [.agg #[Vn (i + 1), Vn ((zI es3_ 0).term), Vi ((zI es3_ 0).kind), Vi ((zI es3_ 0).delta), (zI es3_ 0).dv]]) (by kernel_rfl) rfl rfl (by simp [Value.cells, EntD.cells]) (by decide) rfl (fun b30 => x2 (g := EntD.cells) (sz := 5) (by' := 56) (fun _ => rfl) (l := es) (l' := [({ (zI es3_ 0) with index := i + 1 } : EntD)]) (all_cons ((zx rfl (zx rfl (zx rfl (zx rfl (zx hc1_ xB)))))) (by simp)) 0 (by kernel_rfl) rfl rfl rfl (fun w' hw' => Vec.sl (Own.holds hw' 5 _ rfl)) (by first | omega | (simp; omega)) (by decide) rfl (fun v31 => zD rfl (zA (zj (zC rfl (z6 rfl rfl (zz (by omega)) rfl ?_))))))))))))
   refine zD rfl ?_
   exact zf (fun w' hw => ⟨i + 1, v31, es ++ [({ (zI es3_ 0) with index := i + 1 } : EntD)], ⟨rfl, rfl, rfl, trivial⟩, ⟨by rw [List.length_append]; simp; omega, fun x hx => by
     rcases List.mem_append.1 hx with hx | hx
     · exact he2 x hx
     · rw [List.mem_singleton.1 hx]; exact ⟨⟨by show i + 1 < _; omega, by show (zI es3_ 0).term < _; rw [show (zI es3_ 0).term = _ from congrArg EntA.term ho1.2]; exact hei.wf.term, by show (zI es3_ 0).data.length ≤ _; rw [show (zI es3_ 0).data = _ from congrArg EntA.data ho1.2]; exact hei.wf.data⟩, by show xD (zI es3_ 0).delta; rw [show (zI es3_ 0).delta = _ from congrArg EntA.delta ho1.2]; exact hei.delta⟩⟩, ((hw.starApp (m := [({ (zI es3_ 0) with index := i + 1 } : EntD)]) 1 3 (by decide) rfl (congrArg (fun q => some (Res.star q)) hex)).sel [0, 1] rfl (by decide)), (by omega)⟩)
  ·
   refine yK rfl (zB (zC rfl (zD rfl (zA ?_))))
   exact zP (z8 (v := r) rfl rfl (fun w' hw => ⟨r, es, rfl, by omega, he2, hw⟩))
theorem zFt (w : World) : Rets Tryz.prog 10 #[] w fun u_ w' => u_ = .bool true ∧ Own w [] [] w' := by
  refine zb Tryz.func10 rfl Tryz.ntmps10 (Own.start w) ?_
  refine zB (zD rfl (zA (zB (zK rfl rfl (fun w' hw => (zCX w').mono ?_)))))
  rintro _ w1 ⟨b1_, tb2_, cb3_, bm4_, lm5_, rm6_, rfl, hO⟩
  refine (?_ : CL _ _ _ _ _ _ (Own w [] [Res.row b1_ 66 [.pointer (some ⟨tb2_, 0, none⟩), .pointer (some ⟨cb3_, 0, none⟩), Vn 0], Res.row tb2_ 111 [.map (some bm4_), .map (some lm5_), Vi 0, Vn 0], Res.mp Value.string zw bm4_ ([] : List (ByteArray × Int)), Res.mp zq zU lm5_ ([] : List (Nat × LeaD)), Res.row cb3_ 114 [.map (some rm6_)], Res.mp yE zh rm6_ ([] : List (Nat × RepD))])) w1 (hw.frame0 hO)
  refine zD rfl (zA (zL (zB (zC rfl (yz (by kernel_rfl) rfl rfl rfl (zA (xO rfl (zM (zB (zC rfl (yn (cs := [Vn 1, Vn 1, Vi 1, .string (⟨#[107]⟩ : ByteArray), Vi 5, Vi 0, Vn 0]) (z := [Vn 0, Vn 0, Vi 0, .string (⟨#[]⟩ : ByteArray), Vi 0, Vi 0, Vn 0]) (pl := [(0, 1), (1, 1), (2, 1), (3, 1), (4, 1), (5, 1), (6, 1)]) (by kernel_rfl) (by kernel_rfl) rfl (zK rfl rfl (fun w' hw => ?_)))))))))))))
  refine (zJ7 b1_ tb2_ cb3_ bm4_ lm5_ rm6_ 0 0 0 [] [] [] ({ session := 1, seq := 1, op := 1, key := (⟨#[107]⟩ : ByteArray), amount := 5, span := 0, lease := 0 } : CmdD) w' zJF (by first | omega | (simp <;> omega)) (by first | omega | (simp <;> omega)) (by show (0 : Int) ≤ 0 ∧ (0 : Int) ≤ _; omega) (fun i l h => nomatch h) (hw.give [0, 1, 2, 3, 4, 5] rfl (by decide))).mono ?_
  rintro _ w1 ⟨r7_, did8_, cnt'9_, kb'10_, kl'11_, kr'12_, rfl, hf4_2, hO⟩
  refine (?_ : CL _ _ _ _ _ _ (Own w [] [Res.row b1_ 66 [.pointer (some ⟨tb2_, 0, none⟩), .pointer (some ⟨cb3_, 0, none⟩), Vn 0], Res.row tb2_ 111 [.map (some bm4_), .map (some lm5_), Vi 0, Vn cnt'9_], Res.mp Value.string zw bm4_ kb'10_, Res.mp zq zU lm5_ kl'11_, Res.row cb3_ 114 [.map (some rm6_)], Res.mp yE zh rm6_ kr'12_])) w1 (hw.frameL [0, 1, 2, 3, 4, 5] rfl hO)
  refine zC rfl (zp (vs := [.agg (RepD.cells r7_).toArray, .bool did8_]) rfl rfl rfl (zp (vs := [.agg (RepD.cells r7_).toArray, .bool did8_]) rfl rfl rfl (yL (v := .agg #[Vn 0, Vn 0, Vi 0, Vn 0, Vi 0, Vi 0]) (by kernel_rfl) rfl (fun b2 => zo 6 rfl rfl rfl (yI rfl) rfl (zD rfl (zA (zB (zC rfl (zC rfl (yW (q := did8_ = true) 3 1 [17, 16, 15] (r7_.e = 0) rfl rfl (yr _) rfl rfl rfl trivial rfl (fun h5_1 => ?_) (fun g5_5 => ?_)))))))))))
  ·
   refine zS rfl (bT h5_1) (zX (o := 2) rfl rfl (zS rfl (bT h5_1) (zY 6 (v := Vi r7_.e) rfl rfl rfl rfl (zS rfl (bT h5_1) (xM rfl rfl rfl ?_)))))
   exact ya rfl (fun _ hw => hw)
  refine zC rfl (yW (q := (did8_ = true) ∧ (r7_.e = 0)) 3 6 [22, 21, 20] (((r7_.seq : Nat) : Int) = ((1 : Nat) : Int)) rfl rfl rfl rfl rfl rfl trivial rfl (fun h5_6 => ?_) (fun g5_10 => ?_))
  ·
   refine zS rfl (gT h5_6) (zX (o := 1) rfl rfl (zS rfl (gT h5_6) (zY 6 (v := Vn r7_.seq) rfl rfl rfl rfl (zS rfl (gT h5_6) (xM rfl rfl rfl ?_)))))
   exact ya rfl (fun _ hw => hw)
  refine zD rfl (zA ?_)
  exact zP (z8 (v := .bool (decide (((did8_ = true) ∧ (r7_.e = 0)) ∧ (((r7_.seq : Nat) : Int) = ((1 : Nat) : Int))))) rfl rfl (fun w' hw => ⟨(by congr 1; exact decide_eq_true (zJH hf4_2)), hw.drop⟩))
end Go.Proofs.YthincafbmpialaaGreat
set_option linter.unusedVariables false
set_option maxRecDepth 10000
namespace Go.Proofs.YthincafbmpialaaGreat
open Go Go.Sc Go.Proofs Go.RowKit Go.ChangeShapes Go.WideShapes
theorem zIg {α : Type} (l : List α) : (l.map fun _ => 1).sum = l.length := by induction l <;> simp_all; omega
def zIt (W : World) (p : Value × List UInt8) : Prop := Rd W [] (Res.sl p.1 p.2.length (p.2.map vb))
theorem zIx (W : World) : RdA Tryz.prog W 52 (fun p : Value × List UInt8 => [p.1]) (zIt W) (fun p => p.2.length + 1) :=
  (RdA.slice (sz := 1) Tryz.underlying52 (by kernel_rfl) (by decide) (fun _ => rfl) (RdA.byte (W := W) Tryz.underlying5)).map id (fun _ => rfl) (fun p h => Rd.of (by have := h.1; rw [← zCA] at this; exact this)) (fun p _ => by rw [zIg]; exact Nat.le_refl _)
structure EntIn (W : World) (x : EntD) : Prop where
  index : x.index < 18446744073709551616
  term : x.term < 18446744073709551616
  delta : xD x.delta
  rd : x.rd W []
theorem EntIn.ok {W : World} {x : EntD} (h : EntIn W x) (hd : x.data.length ≤ 1048576) : EntOk x := ⟨⟨h.index, h.term, by omega⟩, h.delta⟩
theorem zLz (W : World) : RdA Tryz.prog W 57 EntD.cells (EntIn W) (fun x => x.data.length + 1) := by
  have h := RdA.struct (W := W) (tot := 5) Tryz.underlying57 (by kernel_rfl)
    (RdF.cons (sz := 1) rfl (by kernel_rfl) (RdA.u64 Tryz.underlying28) (RdF.cons (sz := 1) rfl (by kernel_rfl) (RdA.u64 Tryz.underlying28)
      (RdF.cons (sz := 1) rfl (by kernel_rfl) (RdA.i64 Tryz.underlying3) (RdF.cons (sz := 1) rfl (by kernel_rfl) (RdA.i64 Tryz.underlying2)
        (RdF.cons (sz := 1) rfl (by kernel_rfl) (zIx W) (RdF.nil rfl))))))
  exact h.map (fun p => ⟨⟨p.1, p.2.1, p.2.2.1, p.2.2.2.1, p.2.2.2.2.1.2⟩, p.2.2.2.2.1.1⟩) (fun _ => rfl) (fun _ h => ⟨h.1, h.2.1, h.2.2.2.1, ⟨h.2.2.2.2.1⟩⟩) (fun _ _ => by dsimp only; omega)
theorem zLE (W : World) : RdA Tryz.prog W 22 (fun p : Value × List EntD => [p.1]) (fun p => Rd W [] (Res.sl p.1 p.2.length (p.2.flatMap EntD.cells)) ∧ ∀ a ∈ p.2, EntIn W a) (fun p => (p.2.map fun x => x.data.length + 1).sum + 1) :=
  (RdA.slice (sz := 5) Tryz.underlying22 (by kernel_rfl) (by decide) (fun _ => rfl) (zLz W)).map id (fun _ => rfl) (fun p h => ⟨Rd.of h.1, h.2⟩) (fun p _ => Nat.le_refl _)
theorem zDZ {W : World} {l : List EntD} (h : ∀ a ∈ l, EntIn W a) (hd : (l.map fun x => x.data.length + 1).sum ≤ 1048576) : l.length ≤ 10000000 ∧ (∀ x ∈ l, EntOk x) ∧ ∀ p ∈ l, EntD.rd p W [] := by
  have key : ∀ l : List EntD, l.length ≤ (l.map fun x => x.data.length + 1).sum ∧ ∀ x ∈ l, x.data.length ≤ (l.map fun x => x.data.length + 1).sum := fun l => by
    induction l with
    | nil => simp
    | cons a l ih =>
      simp only [List.map_cons, List.sum_cons, List.length_cons]
      refine ⟨by omega, fun x hx => ?_⟩
      rcases List.mem_cons.1 hx with rfl | hx
      · omega
      · have := ih.2 x hx; omega
  exact ⟨by have := (key l).1; omega, fun x hx => (h x hx).ok (by have := (key l).2 x hx; omega), fun p hp => (h p hp).rd⟩
structure CmdIn (x : CmdD) : Prop where
  session : x.session < 18446744073709551616
  seq : x.seq < 18446744073709551616
  amount : xD x.amount
  span : xD x.span
  lease : x.lease < 18446744073709551616
theorem CmdIn.wf {x : CmdD} (h : CmdIn x) (hd : x.key.size ≤ 1048576) : x.wf := ⟨h.session, h.seq, hd, h.amount, h.span, h.lease⟩
instance : Inhabited CmdD := ⟨cmd1⟩
section
variable {now : Int} {cnt cnt' : Nat} {kb kb' : List (ByteArray × Int)} {kl kl' : List (Nat × LeaD)} {kr kr' : List (Nat × RepD)} {c : CmdD} {r s : RepD} {did : Bool}
theorem LSt.eqs {idx : Nat} {idx2 : Nat} {now2 : Int} {cnt2 : Nat} {bs : List BudD} {ls : List LeaD} {rs : List RepD} (h : LSt idx now cnt kb kl kr idx2 now2 cnt2 bs ls rs) (e : cnt' = cnt ∧ kb' = kb ∧ kl' = kl ∧ kr' = kr) : LSt idx now cnt' kb' kl' kr' idx2 now2 cnt2 bs ls rs := by
  obtain ⟨rfl, rfl, rfl, rfl⟩ := e; exact h
end
end Go.Proofs.YthincafbmpialaaGreat
