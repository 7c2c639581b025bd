import Derived.Test.YtcdiehplbmkmeaaGreatLedP
import Derived.Test.YtcdiehplbmkmeaaGreatLqR
set_option linter.unusedSectionVars false
set_option linter.unusedSimpArgs false
set_option linter.unusedVariables false
set_option maxRecDepth 10000
namespace Go.Proofs.YtcdiehplbmkmeaaGreat
open Go Go.Sc Go.Proofs
def zCh (c : CmdD) (e n : Int) (x : LeaD) : RepD := if x.id ≠ 0 then ⟨c.session, c.seq, e, x.id, x.amount, x.until_⟩ else ⟨c.session, c.seq, e, 0, n, 0⟩
theorem zI8 {c : CmdD} {e n E W : Int} (he : e = E) (hn : n = if e = 0 then W else 0) : zCh c e n LeaD.zero = zFi c E W := by
  subst he; subst hn; rfl
theorem jB {c : CmdD} {e : Int} {x : LeaD} (h0 : e = 0 → x.id ≠ 0) (h1 : e ≠ 0 → x = LeaD.zero) : zCh c e 0 x = xv c x e := by
  unfold xv
  by_cases h : e = 0
  · rw [if_neg fun q => q h]; unfold zCh; rw [if_pos (h0 h), h]
  · rw [if_pos h, h1 h]; rfl
theorem zIH {c : CmdD} {e n : Int} {x : LeaD} (h : x.id ≠ 0) : zCh c e n x = ⟨c.session, c.seq, e, x.id, x.amount, x.until_⟩ := if_pos h
theorem zIC {c : CmdD} {e n : Int} {x : LeaD} (h : x.id = 0) : zCh c e n x = ⟨c.session, c.seq, e, 0, n, 0⟩ := if_neg fun q => q h
theorem zGu {c : CmdD} {e : Int} {x : LeaD} {cnt : Nat} {t : Int} (h : x = kL e cnt c.session c.key c.amount t) : zCh c e 0 x = xv c x e := by
  refine jB (fun q => ?_) (fun q => ?_)
  · rw [h]; unfold kL; rw [if_pos q]; exact Nat.succ_ne_zero _
  · rw [h]; unfold kL; rw [if_neg q]
theorem zFw {c : CmdD} {e : Int} {x : LeaD} {now : Int} {cnt s i : Nat} {sp : Int} {bs : List BudD} {ls ls' : List LeaD} (ho : QOk now cnt bs ls) (h : zA0 now bs ls s i sp x e ls') : zCh c e 0 x = xv c x e := by
  rcases h with h | h | ⟨_, k, hk, _, _, h | h⟩
  · exact jB (fun q => by rw [h.2.1] at q; cases q) (fun _ => h.2.2.1)
  · exact jB (fun q => by rw [h.2.2.1] at q; cases q) (fun _ => h.2.2.2.1)
  · exact jB (fun q => by rw [h.2.1] at q; cases q) (fun _ => h.2.2.1)
  · refine jB (fun _ => ?_) (fun q => absurd h.2.1 q)
    rw [h.2.2.1]
    have := (ho.lok _ (yR hk)).1
    show (zG ls k).id ≠ 0
    omega
theorem zH1 {c : CmdD} {e : Int} {x : LeaD} {now : Int} {cnt s i : Nat} {bs : List BudD} {ls ls' : List LeaD} (ho : QOk now cnt bs ls) (h : zCf ls s i x e ls') : zCh c e 0 x = xv c x e := by
  rcases h with h | ⟨k, hk, _, _, h1, h2, _⟩
  · exact jB (fun q => by rw [h.2.1] at q; cases q) (fun _ => h.2.2.1)
  · refine jB (fun _ => ?_) (fun q => absurd h1 q)
    rw [h2]
    have := (ho.lok _ (yR hk)).1
    omega
theorem zFA {kr : List (Nat × RepD)} {s q : Nat} {x : RepD} {e : Int} (h : zu kr s q = (x, e)) (he : ¬ e ≠ 8) : (zu kr s q).2 = 8 := by rw [h]; exact Decidable.not_not.1 he
theorem zLn {S : List Nat} (wb le : Nat) (ys : List Value) (now : Int) (cnt : Nat) (bv lv rv : Value) (bs : List BudD) (ls : List LeaD) (rs : List RepD) (idx : Nat) (c : CmdD) (w : World) (h : LOkR now cnt bs ls rs) (hcw : c.wf) (hin : Own w S [Res.row wb le (Vi now :: Vn cnt :: bv :: lv :: rv :: Vn idx :: ys), Res.vec 105 2 bv bs.length (bs.flatMap BudD.cells), Res.vec 77 5 lv ls.length (ls.flatMap LeaD.cells), Res.vec 50 6 rv rs.length (rs.flatMap RepD.cells)] w) : Rets Tryz.prog 13 #[.pointer (some ⟨wb, 0, none⟩), .agg (CmdD.cells c).toArray] w fun u_ w' => ∃ (r : RepD) (did : Bool) (cnt' : Nat) (bv' lv' rv' : Value) (bs' : List BudD) (ls' : List LeaD) (rs' : List RepD), u_ = .tuple #[.agg (RepD.cells r).toArray, .bool did] ∧ DoR now cnt bs ls rs c r did cnt' bs' ls' rs' ∧ Own w S [Res.row wb le (Vi now :: Vn cnt' :: bv' :: lv' :: rv' :: Vn idx :: ys), Res.vec 105 2 bv' bs'.length (bs'.flatMap BudD.cells), Res.vec 77 5 lv' ls'.length (ls'.flatMap LeaD.cells), Res.vec 50 6 rv' rs'.length (rs'.flatMap RepD.cells)] w' := by
  have ho := h.q
  have hco := h.c
  have hcn := h.n
  have ht := ho.time
  have hca := hcw.amount
  have hck := hcw.key
  have hll := ho.llen
  refine ze Tryz.func13 rfl Tryz.ntmps13 hin ?_
  refine zB (yj rfl rfl (fun b3 => yG (v := .agg #[Vn 0, Vn 0, Vi 0, Vn 0, Vi 0, Vi 0]) (by kernel_rfl) rfl (fun b4 => zH rfl (zA (zB (zO (o := 0) rfl rfl (zU 4 (v := Vn c.session) rfl rfl rfl rfl (zO (o := 1) rfl rfl (zU 4 (v := Vn c.seq) rfl rfl rfl rfl (z8 (cs := [Vn c.session, Vn c.seq, Vi 0, Vn 0, Vi 0, Vi 0]) (z := [Vn 0, Vn 0, Vi 0, Vn 0, Vi 0, Vi 0]) (pl := [(0, 1), (1, 1), (2, 1), (3, 1), (4, 1), (5, 1)]) (by kernel_rfl) (by kernel_rfl) rfl (yG (v := .agg #[Vn 0, Vn 0, Vi 0, Vn 0, Vi 0, Vi 0]) (by kernel_rfl) rfl (fun b6 => zm 6 rfl rfl rfl (zw rfl) rfl ?_))))))))))))
  refine zA (zL (zB (yN (cs := (CmdD.cells c)) 4 rfl rfl rfl (zQ rfl rfl (fun w' hw => (zDL c w' (by first | omega | (simp <;> omega))).mono ?_)))))
  rintro _ w1 ⟨rfl, hO⟩
  refine (?_ : CL _ _ _ _ _ _ (Own w S [Res.row wb le (Vi now :: Vn cnt :: bv :: lv :: rv :: Vn idx :: ys), Res.vec 105 2 bv bs.length (bs.flatMap BudD.cells), Res.vec 77 5 lv ls.length (ls.flatMap LeaD.cells), Res.vec 50 6 rv rs.length (rs.flatMap RepD.cells), Res.row b3 54 (CmdD.cells c), Res.row b4 50 [Vn 0, Vn 0, Vi 0, Vn 0, Vi 0, Vi 0], Res.row b6 50 [Vn c.session, Vn c.seq, Vi 0, Vn 0, Vi 0, Vi 0]])) w1 (hw.frame0 hO)
  refine xn (q := c.ok) rfl rfl (zA (zV rfl (fun c1 => ?_) (fun c1 => ?_)))
  ·
   refine zB (zO (o := 2) rfl rfl (yn (cs := [Vn c.session, Vn c.seq, Vi 0, Vn 0, Vi 0, Vi 0]) 6 rfl rfl rfl rfl rfl (zA (zB (yN (cs := [Vn c.session, Vn c.seq, Vi 2, Vn 0, Vi 0, Vi 0]) 6 rfl rfl rfl (zm 5 rfl rfl rfl (zw rfl) rfl (zH rfl (zA ?_))))))))
   exact zN (zy (cs := [Vn c.session, Vn c.seq, Vi 2, Vn 0, Vi 0, Vi 0]) (v := .bool false) rfl rfl rfl (by kernel_rfl) (Own.rowCells (i := 5) rfl) (fun w' hw => ⟨({ session := c.session, seq := c.seq, e := 2, lease := 0, amount := 0, until_ := 0 } : RepD), false, cnt, bv, lv, rv, bs, ls, rs, rfl, .inl ⟨.inl ⟨c1, rfl⟩, rfl, rfl, rfl, rfl, rfl⟩, hw.sel [0, 1, 2, 3] rfl (by decide)⟩))
  ·
   refine zJ (zL (zB (zO (o := 0) rfl rfl (zU 4 (v := Vn c.session) rfl rfl rfl rfl (yV rfl rfl rfl (zA (zV rfl (fun c2 => ?_) (fun c2 => ?_))))))))
   ·
    refine zL (zB (zO (o := 2) rfl rfl (zU 4 (v := Vi c.op) rfl rfl rfl rfl (jK rfl rfl rfl (zA (zV rfl (fun c3 => ?_) (fun c3 => ?_)))))))
    ·
     refine zY (zO (o := 2) rfl rfl (yn (cs := [Vn c.session, Vn c.seq, Vi 0, Vn 0, Vi 0, Vi 0]) 6 rfl rfl rfl rfl rfl (zA (zB (yN (cs := [Vn c.session, Vn c.seq, Vi 1, Vn 0, Vi 0, Vi 0]) 6 rfl rfl rfl (zm 5 rfl rfl rfl (zw rfl) rfl (zH rfl (zA ?_))))))))
     exact zN (zy (cs := [Vn c.session, Vn c.seq, Vi 1, Vn 0, Vi 0, Vi 0]) (v := .bool false) rfl rfl rfl (by kernel_rfl) (Own.rowCells (i := 5) rfl) (fun w' hw => ⟨({ session := c.session, seq := c.seq, e := 1, lease := 0, amount := 0, until_ := 0 } : RepD), false, cnt, bv, lv, rv, bs, ls, rs, rfl, .inl ⟨.inr (.inl ⟨Decidable.not_not.1 c1, by omega, by rw [if_neg c3]; rfl⟩), rfl, rfl, rfl, rfl, rfl⟩, hw.sel [0, 1, 2, 3] rfl (by decide)⟩))
    ·
     refine zJ (zB (yN (cs := [Vn c.session, Vn c.seq, Vi 0, Vn 0, Vi 0, Vi 0]) 6 rfl rfl rfl (zm 5 rfl rfl rfl (zw rfl) rfl (zH rfl (zA ?_)))))
     exact zN (zy (cs := [Vn c.session, Vn c.seq, Vi 0, Vn 0, Vi 0, Vi 0]) (v := .bool false) rfl rfl rfl (by kernel_rfl) (Own.rowCells (i := 5) rfl) (fun w' hw => ⟨({ session := c.session, seq := c.seq, e := 0, lease := 0, amount := 0, until_ := 0 } : RepD), false, cnt, bv, lv, rv, bs, ls, rs, rfl, .inl ⟨.inr (.inl ⟨Decidable.not_not.1 c1, by omega, by rw [if_pos (Decidable.not_not.1 c3)]; rfl⟩), rfl, rfl, rfl, rfl, rfl⟩, hw.sel [0, 1, 2, 3] rfl (by decide)⟩))
   ·
    refine zJ (zL (zB (zO (o := 1) rfl rfl (zU 4 (v := Vn c.seq) rfl rfl rfl rfl (yV rfl rfl rfl (zA (zV rfl (fun c4 => ?_) (fun c4 => ?_))))))))
    ·
     refine zB (zO (o := 2) rfl rfl (yn (cs := [Vn c.session, Vn c.seq, Vi 0, Vn 0, Vi 0, Vi 0]) 6 rfl rfl rfl rfl rfl (zA (zB (yN (cs := [Vn c.session, Vn c.seq, Vi 18, Vn 0, Vi 0, Vi 0]) 6 rfl rfl rfl (zm 5 rfl rfl rfl (zw rfl) rfl (zH rfl (zA ?_))))))))
     exact zN (zy (cs := [Vn c.session, Vn c.seq, Vi 18, Vn 0, Vi 0, Vi 0]) (v := .bool false) rfl rfl rfl (by kernel_rfl) (Own.rowCells (i := 5) rfl) (fun w' hw => ⟨({ session := c.session, seq := c.seq, e := 18, lease := 0, amount := 0, until_ := 0 } : RepD), false, cnt, bv, lv, rv, bs, ls, rs, rfl, .inl ⟨.inr (.inr (.inl ⟨Decidable.not_not.1 c1, by omega, by omega, rfl⟩)), rfl, rfl, rfl, rfl, rfl⟩, hw.sel [0, 1, 2, 3] rfl (by decide)⟩))
    ·
     have hgo : c.ok ∧ c.session ≠ 0 ∧ c.seq ≠ 0 := ⟨Decidable.not_not.1 c1, by omega, by omega⟩
     refine zJ (zEj (fun (x : RepD) (e : Int) (bx : Nat) => [(0, .pointer (some ⟨wb, 0, none⟩)), (3, .pointer (some ⟨b3, 0, none⟩)), (4, .pointer (some ⟨b4, 0, none⟩)), (6, .pointer (some ⟨b6, 0, none⟩)), (7, .pointer (some ⟨bx, 0, none⟩)), (8, Vi e)]) (fun (x : RepD) (e : Int) (bx : Nat) => zu (KR rs) c.session c.seq = (x, e)) (fun (x : RepD) (e : Int) (bx : Nat) => [Res.row wb le (Vi now :: Vn cnt :: bv :: lv :: rv :: Vn idx :: ys), Res.vec 105 2 bv bs.length (bs.flatMap BudD.cells), Res.vec 77 5 lv ls.length (ls.flatMap LeaD.cells), Res.vec 50 6 rv rs.length (rs.flatMap RepD.cells), Res.row b3 54 (CmdD.cells c), Res.row b4 50 [Vn 0, Vn 0, Vi 0, Vn 0, Vi 0, Vi 0], Res.row b6 50 [Vn c.session, Vn c.seq, Vi 0, Vn 0, Vi 0, Vi 0], Res.row bx 50 (RepD.cells x)]) ?_ (fun x e bx g hΦ => ?_))
     ·
      refine zZ [1, 2, 4, 5, 6] rfl (by decide) (by kernel_rfl) (fun w' hw hS => zD 0 rfl (zK) hS (zD 1 rfl (zq rfl) hS (zD 2 rfl (zc (o := 4) rfl) hS (zD 3 rfl (zc (o := 0) rfl) hS (zD 4 rfl (zl 2 (v := Vn c.session) rfl rfl rfl) hS (zD 5 rfl (zc (o := 1) rfl) hS (zD 6 rfl (zl 2 (v := Vn c.seq) rfl rfl rfl) hS (za 7 11 ?_ ?_))))))))
      ·
       refine zT 7 rfl hw (zQ rfl rfl (fun w' hw => (zBh wb le (Vi now) (Vn cnt) bv lv (Vn idx :: ys) rv rs c.session c.seq w' ‹_› (hw.give [0, 3] rfl (by decide))).mono ?_))
       rintro _ w1 ⟨x1_, er2_, rfl, hf12_7, hO⟩
       refine (?_ : CL _ _ _ _ _ _ (Own w S [Res.vec 105 2 bv bs.length (bs.flatMap BudD.cells), Res.vec 77 5 lv ls.length (ls.flatMap LeaD.cells), Res.row b3 54 (CmdD.cells c), Res.row b4 50 [Vn 0, Vn 0, Vi 0, Vn 0, Vi 0, Vi 0], Res.row b6 50 [Vn c.session, Vn c.seq, Vi 0, Vn 0, Vi 0, Vi 0], Res.row wb le (Vi now :: Vn cnt :: bv :: lv :: rv :: Vn idx :: ys), Res.vec 50 6 rv rs.length (rs.flatMap RepD.cells)])) w1 (hw.frameL [0, 3] rfl hO)
       refine zE [0, 1, 2, 3, 4] rfl (by decide) (fun w' hw hS => zD 8 rfl (zK) hS (zD 9 rfl (yS (vs := [.agg (RepD.cells x1_).toArray, Vi er2_]) rfl rfl) hS (zD 10 rfl (yS (vs := [.agg (RepD.cells x1_).toArray, Vi er2_]) rfl rfl) hS (zX 11 rfl hw (yG (v := .agg #[Vn 0, Vn 0, Vi 0, Vn 0, Vi 0, Vi 0]) (by kernel_rfl) rfl (fun b7 => zE [0, 1, 2, 3, 4] rfl (by decide) (fun w' hw hS => zX 12 rfl hw (zm 7 rfl rfl rfl (zw rfl) rfl (zE [0, 1, 2, 3, 4] rfl (by decide) (fun w' hw hS => zD 13 rfl (y8) hS (zM ?_)))))))))))
       exact ⟨x1_, er2_, b7, ⟨rfl, rfl, rfl, rfl, rfl, rfl, trivial⟩, hf12_7, hw.sel [5, 0, 1, 6, 2, 3, 4, 7] rfl (by decide)⟩
      ·
       refine zT 11 rfl hw (yG (v := .agg #[Vn 0, Vn 0, Vi 0, Vn 0, Vi 0, Vi 0]) (by kernel_rfl) rfl (fun b7 => zE [1, 2, 4, 5, 6] rfl (by decide) (fun w' hw hS => zX 7 rfl hw (zQ rfl rfl (fun w' hw => (zBh wb le (Vi now) (Vn cnt) bv lv (Vn idx :: ys) rv rs c.session c.seq w' ‹_› (hw.give [0, 3] rfl (by decide))).mono ?_)))))
       rintro _ w1 ⟨x3_, er4_, rfl, hf12_7, hO⟩
       refine (?_ : CL _ _ _ _ _ _ (Own w S [Res.vec 105 2 bv bs.length (bs.flatMap BudD.cells), Res.vec 77 5 lv ls.length (ls.flatMap LeaD.cells), Res.row b3 54 (CmdD.cells c), Res.row b4 50 [Vn 0, Vn 0, Vi 0, Vn 0, Vi 0, Vi 0], Res.row b6 50 [Vn c.session, Vn c.seq, Vi 0, Vn 0, Vi 0, Vi 0], Res.row b7 50 [Vn 0, Vn 0, Vi 0, Vn 0, Vi 0, Vi 0], Res.row wb le (Vi now :: Vn cnt :: bv :: lv :: rv :: Vn idx :: ys), Res.vec 50 6 rv rs.length (rs.flatMap RepD.cells)])) w1 (hw.frameL [0, 3] rfl hO)
       refine zE [0, 1, 2, 3, 4] rfl (by decide) (fun w' hw hS => zD 8 rfl (zK) hS (zD 9 rfl (yS (vs := [.agg (RepD.cells x3_).toArray, Vi er4_]) rfl rfl) hS (zD 10 rfl (yS (vs := [.agg (RepD.cells x3_).toArray, Vi er4_]) rfl rfl) hS (zX 12 rfl hw (zm 5 rfl rfl rfl (zw rfl) rfl (zE [0, 1, 2, 3, 4] rfl (by decide) (fun w' hw hS => zD 13 rfl (y8) hS (zM ?_))))))))
       exact ⟨x3_, er4_, b7, ⟨rfl, rfl, rfl, rfl, rfl, rfl, trivial⟩, hf12_7, hw.sel [6, 0, 1, 7, 2, 3, 4, 5] rfl (by decide)⟩
     have hfk := hΦ
     refine zL (zB (zC rfl (yV rfl rfl rfl (zA (zV rfl (fun c5 => ?_) (fun c5 => ?_))))))
     ·
      refine zB (yN (cs := (RepD.cells x)) 7 rfl rfl rfl (zm 5 rfl rfl rfl (zw rfl) rfl (zH rfl (zA ?_))))
      exact zN (zy (cs := (RepD.cells x)) (v := .bool false) rfl rfl rfl (by kernel_rfl) (Own.rowCells (i := 5) rfl) (fun w' hw => ⟨x, false, cnt, bv, lv, rv, bs, ls, rs, rfl, .inl ⟨.inr (.inr (.inr ⟨hgo, by rw [hfk, c5]; show (0 : Int) ≠ 8; decide, by rw [hfk, if_pos c5]⟩)), rfl, rfl, rfl, rfl, rfl⟩, hw.sel [0, 1, 2, 3] rfl (by decide)⟩))
     ·
      refine zJ (zL (zB (zC rfl (yV rfl rfl rfl (zA (zV rfl (fun c6 => ?_) (fun c6 => ?_)))))))
      ·
       refine zB (zO (o := 2) rfl rfl (yn (cs := [Vn c.session, Vn c.seq, Vi 0, Vn 0, Vi 0, Vi 0]) 6 rfl rfl rfl rfl rfl (zA (zB (yN (cs := [Vn c.session, Vn c.seq, Vi 18, Vn 0, Vi 0, Vi 0]) 6 rfl rfl rfl (zm 5 rfl rfl rfl (zw rfl) rfl (zH rfl (zA ?_))))))))
       exact zN (zy (cs := [Vn c.session, Vn c.seq, Vi 18, Vn 0, Vi 0, Vi 0]) (v := .bool false) rfl rfl rfl (by kernel_rfl) (Own.rowCells (i := 5) rfl) (fun w' hw => ⟨({ session := c.session, seq := c.seq, e := 18, lease := 0, amount := 0, until_ := 0 } : RepD), false, cnt, bv, lv, rv, bs, ls, rs, rfl, .inl ⟨.inr (.inr (.inr ⟨hgo, by rw [hfk, c6]; show (13 : Int) ≠ 8; decide, by rw [hfk, if_neg c5, if_pos c6]; rfl⟩)), rfl, rfl, rfl, rfl, rfl⟩, hw.sel [0, 1, 2, 3] rfl (by decide)⟩))
      ·
       refine zJ (zL (zB (zC rfl (jK rfl rfl rfl (zA (zV rfl (fun c7 => ?_) (fun c7 => ?_)))))))
       ·
        refine zB (zC rfl (zO (o := 2) rfl rfl (yn (cs := [Vn c.session, Vn c.seq, Vi 0, Vn 0, Vi 0, Vi 0]) 6 rfl rfl rfl rfl rfl (zA (zB (yN (cs := [Vn c.session, Vn c.seq, Vi e, Vn 0, Vi 0, Vi 0]) 6 rfl rfl rfl (zm 5 rfl rfl rfl (zw rfl) rfl (zH rfl (zA ?_)))))))))
        exact zN (zy (cs := [Vn c.session, Vn c.seq, Vi e, Vn 0, Vi 0, Vi 0]) (v := .bool false) rfl rfl rfl (by kernel_rfl) (Own.rowCells (i := 5) rfl) (fun w' hw => ⟨({ session := c.session, seq := c.seq, e := e, lease := 0, amount := 0, until_ := 0 } : RepD), false, cnt, bv, lv, rv, bs, ls, rs, rfl, .inl ⟨.inr (.inr (.inr ⟨hgo, by rw [hfk]; exact c7, by rw [hfk, if_neg c5, if_neg c6]; rfl⟩)), rfl, rfl, rfl, rfl, rfl⟩, hw.sel [0, 1, 2, 3] rfl (by decide)⟩))
       ·
        refine zJ (zB (z8 (cs := [Vn 0, Vn 0, .string (⟨#[]⟩ : ByteArray), Vi 0, Vi 0]) (z := [Vn 0, Vn 0, .string (⟨#[]⟩ : ByteArray), Vi 0, Vi 0]) (pl := [(0, 1), (1, 1), (2, 1), (3, 1), (4, 1)]) (by kernel_rfl) (by kernel_rfl) rfl (yG (v := .agg #[Vn 0, Vn 0, .string (⟨#[]⟩ : ByteArray), Vi 0, Vi 0]) (by kernel_rfl) rfl (fun b9 => zm 8 rfl rfl rfl (zw rfl) rfl (zA (zJv (fun (xl : LeaD) (er nn : Int) (cnt2 : Nat) (bv2 lv2 : Value) (bs2 : List BudD) (ls2 : List LeaD) => [(0, .pointer (some ⟨wb, 0, none⟩)), (4, .pointer (some ⟨b4, 0, none⟩)), (6, .pointer (some ⟨b6, 0, none⟩)), (9, .pointer (some ⟨b9, 0, none⟩))]) (fun (xl : LeaD) (er nn : Int) (cnt2 : Nat) (bv2 lv2 : Value) (bs2 : List BudD) (ls2 : List LeaD) => zFn now cnt bs ls c (zCh c er nn xl) cnt2 bs2 ls2) (fun (xl : LeaD) (er nn : Int) (cnt2 : Nat) (bv2 lv2 : Value) (bs2 : List BudD) (ls2 : List LeaD) => [Res.row wb le (Vi now :: Vn cnt2 :: bv2 :: lv2 :: rv :: Vn idx :: ys), Res.vec 105 2 bv2 bs2.length (bs2.flatMap BudD.cells), Res.vec 77 5 lv2 ls2.length (ls2.flatMap LeaD.cells), Res.vec 50 6 rv rs.length (rs.flatMap RepD.cells), Res.row b3 54 (CmdD.cells c), Res.row b4 50 [Vn 0, Vn 0, Vi 0, Vn 0, Vi 0, Vi 0], Res.row b6 50 [Vn c.session, Vn c.seq, Vi er, Vn 0, Vi nn, Vi 0], Res.row b9 77 (LeaD.cells xl)]) ?_ (fun xl er nn cnt2 bv2 lv2 bs2 ls2 g hΦ => ?_)))))))
        ·
         refine zB (zO (o := 2) rfl rfl (zU 4 (v := Vi c.op) rfl rfl rfl rfl (zA (zW (zB (yV rfl rfl rfl (zH rfl (zA (zV rfl (fun c8 => ?_) (fun c8 => ?_))))))))))
         ·
          refine zZ [3, 4, 5, 7, 8] rfl (by decide) (by kernel_rfl) (fun w' hw hS => zD 0 rfl (zK) hS (zD 1 rfl (zq rfl) hS (zD 2 rfl (zc (o := 0) rfl) hS (zD 3 rfl (zc (o := 3) rfl) hS (zD 4 rfl (zl 1 (v := .string c.key) rfl rfl rfl) hS (zD 5 rfl (zc (o := 4) rfl) hS (zD 6 rfl (zl 1 (v := Vi c.amount) rfl rfl rfl) hS (zX 7 rfl hw (zQ rfl rfl (fun w' hw => (zKb wb le (rv :: Vn idx :: ys) now cnt bv lv bs ls c.key c.amount w' ‹_› (hw.give [0, 1, 2] rfl (by decide))).mono ?_))))))))))
          rintro _ w1 ⟨n5_, e6_, bv'7_, bs'8_, rfl, hf24_7, hf24_7_1, hf24_7_2, hO⟩
          refine (?_ : CL _ _ _ _ _ _ (Own w S [Res.vec 50 6 rv rs.length (rs.flatMap RepD.cells), Res.row b3 54 (CmdD.cells c), Res.row b4 50 [Vn 0, Vn 0, Vi 0, Vn 0, Vi 0, Vi 0], Res.row b6 50 [Vn c.session, Vn c.seq, Vi 0, Vn 0, Vi 0, Vi 0], Res.row bx 50 (RepD.cells x), Res.row b9 77 [Vn 0, Vn 0, .string (⟨#[]⟩ : ByteArray), Vi 0, Vi 0], Res.row wb le (Vi now :: Vn cnt :: bv'7_ :: lv :: rv :: Vn idx :: ys), Res.vec 105 2 bv'7_ bs'8_.length (bs'8_.flatMap BudD.cells), Res.vec 77 5 lv ls.length (ls.flatMap LeaD.cells)])) w1 (hw.frameL [0, 1, 2] rfl hO)
          refine zE [0, 1, 2, 4, 5] rfl (by decide) (fun w' hw hS => zD 8 rfl (zK) hS (zD 9 rfl (yS (vs := [Vi n5_, Vi e6_]) rfl rfl) hS (zD 10 rfl (yS (vs := [Vi n5_, Vi e6_]) rfl rfl) hS (zD 11 rfl (zc (o := 4) rfl) hS (zX 12 rfl hw (yn (cs := [Vn c.session, Vn c.seq, Vi 0, Vn 0, Vi 0, Vi 0]) 3 rfl rfl rfl rfl rfl (zE [0, 1, 2, 4, 5] rfl (by decide) (fun w' hw hS => zD 13 rfl (zc (o := 2) rfl) hS (zX 14 rfl hw (yn (cs := [Vn c.session, Vn c.seq, Vi 0, Vn 0, Vi n5_, Vi 0]) 3 rfl rfl rfl rfl rfl (zE [0, 1, 2, 4, 5] rfl (by decide) (fun w' hw hS => zM ?_))))))))))))
          exact ⟨LeaD.zero, e6_, n5_, cnt, bv'7_, lv, bs'8_, ls, ⟨rfl, rfl, rfl, rfl, trivial⟩, .inl ⟨c8, zI8 hf24_7 hf24_7_2, rfl, hf24_7_1, rfl⟩, hw.sel [6, 7, 8, 0, 1, 2, 3, 5] rfl (by decide)⟩
         ·
          refine zB (yV rfl rfl rfl (zH rfl (zA (zV rfl (fun c9 => ?_) (fun c9 => ?_)))))
          ·
           refine zZ [3, 4, 5, 7] rfl (by decide) (by kernel_rfl) (fun w' hw hS => zD 0 rfl (zK) hS (zD 1 rfl (zq rfl) hS (zD 2 rfl (zc (o := 0) rfl) hS (zD 3 rfl (zc (o := 0) rfl) hS (zD 4 rfl (zl 1 (v := Vn c.session) rfl rfl rfl) hS (zD 5 rfl (zc (o := 3) rfl) hS (zD 6 rfl (zl 1 (v := .string c.key) rfl rfl rfl) hS (zD 7 rfl (zc (o := 4) rfl) hS (zD 8 rfl (zl 1 (v := Vi c.amount) rfl rfl rfl) hS (zD 9 rfl (zc (o := 5) rfl) hS (zD 10 rfl (zl 1 (v := Vi c.span) rfl rfl rfl) hS (zX 11 rfl hw ?_))))))))))))
           refine zQ rfl rfl (fun w' hw => (zIY wb le (rv :: Vn idx :: ys) now cnt bv lv bs ls c.session c.key c.amount c.span w' ‹_› ‹_› (by first | omega | (simp <;> omega)) (hw.give [0, 1, 2] rfl (by decide))).mono ?_)
           rintro _ w1 ⟨x9_, e10_, cnt'11_, lv'12_, ls'13_, rfl, hf26_11, hf26_11_1, hf26_11_2, hf26_11_3, hO⟩
           refine (?_ : CL _ _ _ _ _ _ (Own w S [Res.vec 50 6 rv rs.length (rs.flatMap RepD.cells), Res.row b3 54 (CmdD.cells c), Res.row b4 50 [Vn 0, Vn 0, Vi 0, Vn 0, Vi 0, Vi 0], Res.row b6 50 [Vn c.session, Vn c.seq, Vi 0, Vn 0, Vi 0, Vi 0], Res.row bx 50 (RepD.cells x), Res.row b9 77 [Vn 0, Vn 0, .string (⟨#[]⟩ : ByteArray), Vi 0, Vi 0], Res.row wb le (Vi now :: Vn cnt'11_ :: bv :: lv'12_ :: rv :: Vn idx :: ys), Res.vec 105 2 bv bs.length (bs.flatMap BudD.cells), Res.vec 77 5 lv'12_ ls'13_.length (ls'13_.flatMap LeaD.cells)])) w1 (hw.frameL [0, 1, 2] rfl hO)
           refine zE [0, 1, 2, 4] rfl (by decide) (fun w' hw hS => zD 12 rfl (zK) hS (zD 13 rfl (yS (vs := [.agg (LeaD.cells x9_).toArray, Vi e10_]) rfl rfl) hS (zD 14 rfl (yS (vs := [.agg (LeaD.cells x9_).toArray, Vi e10_]) rfl rfl) hS (zX 15 rfl hw (zm 5 rfl rfl rfl (zw rfl) rfl (zE [0, 1, 2, 4] rfl (by decide) (fun w' hw hS => zD 16 rfl (zc (o := 2) rfl) hS (zX 17 rfl hw (yn (cs := [Vn c.session, Vn c.seq, Vi 0, Vn 0, Vi 0, Vi 0]) 3 rfl rfl rfl rfl rfl (zE [0, 1, 2, 4] rfl (by decide) (fun w' hw hS => zM ?_)))))))))))
           exact ⟨x9_, e10_, 0, cnt'11_, bv, lv'12_, bs, ls'13_, ⟨rfl, rfl, rfl, rfl, trivial⟩, .inr (.inl ⟨c9, x9_, e10_, hf26_11, hf26_11_1, zGu hf26_11_1, hf26_11_2, rfl, hf26_11_3⟩), hw.sel [6, 7, 8, 0, 1, 2, 3, 5] rfl (by decide)⟩
          ·
           refine zB (yV rfl rfl rfl (zH rfl (zA (zV rfl (fun c10 => ?_) (fun c10 => ?_)))))
           ·
            refine zZ [3, 4, 5, 7] rfl (by decide) (by kernel_rfl) (fun w' hw hS => zD 0 rfl (zK) hS (zD 1 rfl (zq rfl) hS (zD 2 rfl (zc (o := 0) rfl) hS (zD 3 rfl (zc (o := 0) rfl) hS (zD 4 rfl (zl 1 (v := Vn c.session) rfl rfl rfl) hS (zD 5 rfl (zc (o := 6) rfl) hS (zD 6 rfl (zl 1 (v := Vn c.lease) rfl rfl rfl) hS (zD 7 rfl (zc (o := 5) rfl) hS (zD 8 rfl (zl 1 (v := Vi c.span) rfl rfl rfl) hS (zX 9 rfl hw (zQ rfl rfl (fun w' hw => (zGd wb le (rv :: Vn idx :: ys) now cnt bv lv bs ls c.session c.lease c.span w' ‹_› (hw.give [0, 1, 2] rfl (by decide))).mono ?_))))))))))))
            rintro _ w1 ⟨x14_, e15_, ls'16_, rfl, hf28_9, hO⟩
            refine (?_ : CL _ _ _ _ _ _ (Own w S [Res.vec 50 6 rv rs.length (rs.flatMap RepD.cells), Res.row b3 54 (CmdD.cells c), Res.row b4 50 [Vn 0, Vn 0, Vi 0, Vn 0, Vi 0, Vi 0], Res.row b6 50 [Vn c.session, Vn c.seq, Vi 0, Vn 0, Vi 0, Vi 0], Res.row bx 50 (RepD.cells x), Res.row b9 77 [Vn 0, Vn 0, .string (⟨#[]⟩ : ByteArray), Vi 0, Vi 0], Res.row wb le (Vi now :: Vn cnt :: bv :: lv :: rv :: Vn idx :: ys), Res.vec 105 2 bv bs.length (bs.flatMap BudD.cells), Res.vec 77 5 lv ls'16_.length (ls'16_.flatMap LeaD.cells)])) w1 (hw.frameL [0, 1, 2] rfl hO)
            refine zE [0, 1, 2, 4] rfl (by decide) (fun w' hw hS => zD 10 rfl (zK) hS (zD 11 rfl (yS (vs := [.agg (LeaD.cells x14_).toArray, Vi e15_]) rfl rfl) hS (zD 12 rfl (yS (vs := [.agg (LeaD.cells x14_).toArray, Vi e15_]) rfl rfl) hS (zX 13 rfl hw (zm 5 rfl rfl rfl (zw rfl) rfl (zE [0, 1, 2, 4] rfl (by decide) (fun w' hw hS => zD 14 rfl (zc (o := 2) rfl) hS (zX 15 rfl hw (yn (cs := [Vn c.session, Vn c.seq, Vi 0, Vn 0, Vi 0, Vi 0]) 3 rfl rfl rfl rfl rfl (zE [0, 1, 2, 4] rfl (by decide) (fun w' hw hS => zM ?_)))))))))))
            exact ⟨x14_, e15_, 0, cnt, bv, lv, bs, ls'16_, ⟨rfl, rfl, rfl, rfl, trivial⟩, .inr (.inr (.inl ⟨c10, x14_, e15_, hf28_9, zFw ho hf28_9, rfl, rfl⟩)), hw.sel [6, 7, 8, 0, 1, 2, 3, 5] rfl (by decide)⟩
           ·
            refine zB (yV rfl rfl rfl (zH rfl (zA (zV rfl (fun c11 => ?_) (fun c11 => ?_)))))
            ·
             refine zZ [1, 3, 4, 5, 7] rfl (by decide) (by kernel_rfl) (fun w' hw hS => zD 0 rfl (zK) hS (zD 1 rfl (zq rfl) hS (zD 2 rfl (zc (o := 0) rfl) hS (zD 3 rfl (zc (o := 0) rfl) hS (zD 4 rfl (zl 2 (v := Vn c.session) rfl rfl rfl) hS (zD 5 rfl (zc (o := 6) rfl) hS (zD 6 rfl (zl 2 (v := Vn c.lease) rfl rfl rfl) hS (zX 7 rfl hw (zQ rfl rfl (fun w' hw => (zIL wb le (rv :: Vn idx :: ys) now cnt bv lv bs ls c.session c.lease w' (by first | omega | (simp <;> omega)) (hw.give [0, 2] rfl (by decide))).mono ?_))))))))))
             rintro _ w1 ⟨x17_, e18_, lv'19_, ls'20_, rfl, hf30_7, hO⟩
             refine (?_ : CL _ _ _ _ _ _ (Own w S [Res.vec 105 2 bv bs.length (bs.flatMap BudD.cells), Res.vec 50 6 rv rs.length (rs.flatMap RepD.cells), Res.row b3 54 (CmdD.cells c), Res.row b4 50 [Vn 0, Vn 0, Vi 0, Vn 0, Vi 0, Vi 0], Res.row b6 50 [Vn c.session, Vn c.seq, Vi 0, Vn 0, Vi 0, Vi 0], Res.row bx 50 (RepD.cells x), Res.row b9 77 [Vn 0, Vn 0, .string (⟨#[]⟩ : ByteArray), Vi 0, Vi 0], Res.row wb le (Vi now :: Vn cnt :: bv :: lv'19_ :: rv :: Vn idx :: ys), Res.vec 77 5 lv'19_ ls'20_.length (ls'20_.flatMap LeaD.cells)])) w1 (hw.frameL [0, 2] rfl hO)
             refine zE [0, 1, 2, 3, 5] rfl (by decide) (fun w' hw hS => zD 8 rfl (zK) hS (zD 9 rfl (yS (vs := [.agg (LeaD.cells x17_).toArray, Vi e18_]) rfl rfl) hS (zD 10 rfl (yS (vs := [.agg (LeaD.cells x17_).toArray, Vi e18_]) rfl rfl) hS (zX 11 rfl hw (zm 6 rfl rfl rfl (zw rfl) rfl (zE [0, 1, 2, 3, 5] rfl (by decide) (fun w' hw hS => zD 12 rfl (zc (o := 2) rfl) hS (zX 13 rfl hw (yn (cs := [Vn c.session, Vn c.seq, Vi 0, Vn 0, Vi 0, Vi 0]) 4 rfl rfl rfl rfl rfl (zE [0, 1, 2, 3, 5] rfl (by decide) (fun w' hw hS => zM ?_)))))))))))
             exact ⟨x17_, e18_, 0, cnt, bv, lv'19_, bs, ls'20_, ⟨rfl, rfl, rfl, rfl, trivial⟩, .inr (.inr (.inr (.inl ⟨c11, x17_, e18_, hf30_7, zH1 ho hf30_7, rfl, rfl⟩))), hw.sel [7, 0, 8, 1, 2, 3, 4, 6] rfl (by decide)⟩
            ·
             exact xQ (fun w' hw => ⟨LeaD.zero, 0, 0, cnt, bv, lv, bs, ls, ⟨rfl, rfl, rfl, rfl, trivial⟩, .inr (.inr (.inr (.inr ⟨⟨⟨c8, c9⟩, c10, c11⟩, rfl, rfl, rfl, rfl⟩))), hw.sel [0, 1, 2, 3, 4, 5, 6, 8] rfl (by decide)⟩)
        have hT := hΦ
        refine zL (zB (zO (o := 0) rfl rfl (zU 7 (v := Vn xl.id) rfl rfl rfl rfl (jK rfl rfl rfl (zA (zV rfl (fun c12 => ?_) (fun c12 => ?_)))))))
        ·
         refine zB (zO (o := 0) rfl rfl (zU 7 (v := Vn xl.id) rfl rfl rfl rfl (zO (o := 3) rfl rfl (yn (cs := [Vn c.session, Vn c.seq, Vi er, Vn 0, Vi nn, Vi 0]) 6 rfl rfl rfl rfl rfl (zA (zB (zO (o := 3) rfl rfl (zU 7 (v := Vi xl.amount) rfl rfl rfl rfl (zO (o := 4) rfl rfl (yn (cs := [Vn c.session, Vn c.seq, Vi er, Vn xl.id, Vi nn, Vi 0]) 6 rfl rfl rfl rfl rfl (zA (zY ?_))))))))))))
         refine zO (o := 4) rfl rfl (zU 7 (v := Vi xl.until_) rfl rfl rfl rfl (zO (o := 5) rfl rfl (yn 6 rfl rfl rfl rfl rfl (zA (zL (zZ [1, 2, 4, 5, 6, 7] rfl (by decide) (by kernel_rfl) (fun w' hw hS => zD 0 rfl (zK) hS (zD 1 rfl (zq rfl) hS (zD 2 rfl (zc (o := 4) rfl) hS (zD 3 rfl (xh 4 rfl rfl) hS (zX 4 rfl hw (zQ rfl rfl (fun w' hw => ?_)))))))))))))
         refine (zDI wb le (Vi now) (Vn cnt2) bv2 lv2 (Vn idx :: ys) rv rs ({ session := c.session, seq := c.seq, e := er, lease := xl.id, amount := xl.amount, until_ := xl.until_ } : RepD) w' ‹_› (hw.give [0, 3] rfl (by decide))).mono ?_
         rintro _ w1 ⟨er21_, lv'22_, l'23_, rfl, hf35_4, hf35_4_1, hO⟩
         refine (?_ : CL _ _ _ _ _ _ (Own w S [Res.vec 105 2 bv2 bs2.length (bs2.flatMap BudD.cells), Res.vec 77 5 lv2 ls2.length (ls2.flatMap LeaD.cells), Res.row b3 54 (CmdD.cells c), Res.row b4 50 [Vn 0, Vn 0, Vi 0, Vn 0, Vi 0, Vi 0], Res.row b6 50 [Vn c.session, Vn c.seq, Vi er, Vn xl.id, Vi xl.amount, Vi xl.until_], Res.row b9 77 (LeaD.cells xl), Res.row wb le (Vi now :: Vn cnt2 :: bv2 :: lv2 :: lv'22_ :: Vn idx :: ys), Res.vec 50 6 lv'22_ l'23_.length (l'23_.flatMap RepD.cells)])) w1 (hw.frameL [0, 3] rfl hO)
         refine zE [0, 1, 2, 3, 4, 5] rfl (by decide) (fun w' hw hS => zM ?_)
         refine (?_ : C _ _ _ _ _ _ _ (Own w S [Res.vec 105 2 bv2 bs2.length (bs2.flatMap BudD.cells), Res.vec 77 5 lv2 ls2.length (ls2.flatMap LeaD.cells), Res.row b3 54 (CmdD.cells c), Res.row b4 50 [Vn 0, Vn 0, Vi 0, Vn 0, Vi 0, Vi 0], Res.row b6 50 [Vn c.session, Vn c.seq, Vi er, Vn xl.id, Vi xl.amount, Vi xl.until_], Res.row b9 77 (LeaD.cells xl), Res.row wb le (Vi now :: Vn cnt2 :: bv2 :: lv2 :: lv'22_ :: Vn idx :: ys), Res.vec 50 6 lv'22_ l'23_.length (l'23_.flatMap RepD.cells)])) _ hw
         refine zB (yN 4 rfl rfl rfl (zm 3 rfl rfl rfl (zw rfl) rfl (zH rfl (zA ?_))))
         exact zN (zy (cs := [Vn c.session, Vn c.seq, Vi er, Vn xl.id, Vi xl.amount, Vi xl.until_]) (v := .bool true) rfl rfl rfl (by kernel_rfl) (Own.rowCells (i := 3) rfl) (fun w' hw => ⟨({ session := c.session, seq := c.seq, e := er, lease := xl.id, amount := xl.amount, until_ := xl.until_ } : RepD), true, cnt2, bv2, lv2, lv'22_, bs2, ls2, l'23_, rfl, .inr ⟨⟨hgo, zFA hfk c7⟩, (by have h := hT; rw [zIH (by omega)] at h; exact h), rfl, hf35_4_1⟩, hw.sel [6, 0, 1, 7] rfl (by decide)⟩))
        ·
         refine zJ (zL (zZ [1, 2, 4, 5, 6, 7] rfl (by decide) (by kernel_rfl) (fun w' hw hS => zD 0 rfl (zK) hS (zD 1 rfl (zq rfl) hS (zD 2 rfl (zc (o := 4) rfl) hS (zD 3 rfl (xh (cs := [Vn c.session, Vn c.seq, Vi er, Vn 0, Vi nn, Vi 0]) 4 rfl rfl) hS (zX 4 rfl hw (zQ rfl rfl (fun w' hw => (zDI wb le (Vi now) (Vn cnt2) bv2 lv2 (Vn idx :: ys) rv rs ({ session := c.session, seq := c.seq, e := er, lease := 0, amount := nn, until_ := 0 } : RepD) w' ‹_› (hw.give [0, 3] rfl (by decide))).mono ?_)))))))))
         rintro _ w1 ⟨er24_, lv'25_, l'26_, rfl, hf35_4, hf35_4_1, hO⟩
         refine (?_ : CL _ _ _ _ _ _ (Own w S [Res.vec 105 2 bv2 bs2.length (bs2.flatMap BudD.cells), Res.vec 77 5 lv2 ls2.length (ls2.flatMap LeaD.cells), Res.row b3 54 (CmdD.cells c), Res.row b4 50 [Vn 0, Vn 0, Vi 0, Vn 0, Vi 0, Vi 0], Res.row b6 50 [Vn c.session, Vn c.seq, Vi er, Vn 0, Vi nn, Vi 0], Res.row b9 77 (LeaD.cells xl), Res.row wb le (Vi now :: Vn cnt2 :: bv2 :: lv2 :: lv'25_ :: Vn idx :: ys), Res.vec 50 6 lv'25_ l'26_.length (l'26_.flatMap RepD.cells)])) w1 (hw.frameL [0, 3] rfl hO)
         refine zE [0, 1, 2, 3, 4, 5] rfl (by decide) (fun w' hw hS => zM ?_)
         refine (?_ : C _ _ _ _ _ _ _ (Own w S [Res.vec 105 2 bv2 bs2.length (bs2.flatMap BudD.cells), Res.vec 77 5 lv2 ls2.length (ls2.flatMap LeaD.cells), Res.row b3 54 (CmdD.cells c), Res.row b4 50 [Vn 0, Vn 0, Vi 0, Vn 0, Vi 0, Vi 0], Res.row b6 50 [Vn c.session, Vn c.seq, Vi er, Vn 0, Vi nn, Vi 0], Res.row b9 77 (LeaD.cells xl), Res.row wb le (Vi now :: Vn cnt2 :: bv2 :: lv2 :: lv'25_ :: Vn idx :: ys), Res.vec 50 6 lv'25_ l'26_.length (l'26_.flatMap RepD.cells)])) _ hw
         refine zB (yN (cs := [Vn c.session, Vn c.seq, Vi er, Vn 0, Vi nn, Vi 0]) 4 rfl rfl rfl (zm 3 rfl rfl rfl (zw rfl) rfl (zH rfl (zA ?_))))
         exact zN (zy (cs := [Vn c.session, Vn c.seq, Vi er, Vn 0, Vi nn, Vi 0]) (v := .bool true) rfl rfl rfl (by kernel_rfl) (Own.rowCells (i := 3) rfl) (fun w' hw => ⟨({ session := c.session, seq := c.seq, e := er, lease := 0, amount := nn, until_ := 0 } : RepD), true, cnt2, bv2, lv2, lv'25_, bs2, ls2, l'26_, rfl, .inr ⟨⟨hgo, zFA hfk c7⟩, (by have h := hT; rw [zIC (by omega)] at h; exact h), rfl, hf35_4_1⟩, hw.sel [6, 0, 1, 7] rfl (by decide)⟩))
end Go.Proofs.YtcdiehplbmkmeaaGreat
