import Derived.Test.YtcdiehplbmkmeaaGreatFwN
set_option linter.unusedSectionVars false
set_option linter.unusedSimpArgs false
set_option linter.unusedVariables false
set_option maxRecDepth 10000
namespace Go.Proofs.YtcdiehplbmkmeaaGreat
open Go Go.Sc Go.Proofs
def toI (n : Nat) : Int := if n ≤ 9223372036854775807 then n else (n : Int) - 18446744073709551616
theorem RdS.int {most : Nat} {b : List UInt8} {a a1 n : Nat} {bad bad1 : Bool} (h : RdS (zHG most) b a bad n a1 bad1) : RdS (zIM most) b a bad (n : Int) a1 bad1 := RdS.map (fun n : Nat => (n : Int)) h
structure CmdD where
  session : Nat
  seq : Nat
  op : Int
  key : ByteArray
  amount : Int
  span : Int
  lease : Nat
  deriving DecidableEq
structure CmdD.wf (x : CmdD) : Prop where
  session : x.session < 18446744073709551616
  seq : x.seq < 18446744073709551616
  key : x.key.size ≤ 1048576
  amount : yx x.amount
  span : yx x.span
  lease : x.lease < 18446744073709551616
def CmdD.cells (x : CmdD) : List Value := [.int .u64 x.session, .int .u64 x.seq, .int .i64 x.op, .string x.key, .int .i64 x.amount, .int .i64 x.span, .int .u64 x.lease]
def CmdD.ok (x : CmdD) : Prop := (1 ≤ x.op ∧ x.op ≤ 5) ∧ x.key.size ≤ 64
instance (x : CmdD) : Decidable x.ok := inferInstanceAs (Decidable ((_ ∧ _) ∧ _))
def zH5 (s : ByteArray) : List UInt8 := s.data.toList
theorem zD4 (s : ByteArray) : (zH5 s).length = s.size := by unfold zH5; rw [Array.length_toList]; rfl
def CmdD.enc (x : CmdD) : List UInt8 := yu [x.session, x.seq, u64 x.op] ++ dat (zH5 x.key) ++ yu [u64 x.amount, u64 x.span, x.lease]
structure RepD where
  session : Nat
  seq : Nat
  e : Int
  lease : Nat
  amount : Int
  until_ : Int
  deriving DecidableEq
structure RepD.wf (r : RepD) : Prop where
  session : r.session < 18446744073709551616
  seq : r.seq < 18446744073709551616
  lease : r.lease < 18446744073709551616
  amount : yx r.amount
  until_ : yx r.until_
def RepD.cells (r : RepD) : List Value := [.int .u64 r.session, .int .u64 r.seq, .int .i64 r.e, .int .u64 r.lease, .int .i64 r.amount, .int .i64 r.until_]
def RepD.ok (r : RepD) : Prop := 0 ≤ r.e ∧ r.e ≤ 20
instance (r : RepD) : Decidable r.ok := inferInstanceAs (Decidable (_ ∧ _))
def RepD.enc (r : RepD) : List UInt8 := yu [r.session, r.seq, u64 r.e, r.lease, u64 r.amount, u64 r.until_]
theorem zEO (x : CmdD) (w : World) (hx : x.key.size ≤ 1048576) : Rets Tryz.prog 58 #[.agg (CmdD.cells x).toArray] w fun u_ w' => u_ = .bool (decide x.ok) ∧ Own w [] [] w' := by
  refine ze Tryz.func58 rfl Tryz.ntmps58 (Own.start w) ?_
  refine zB (yj rfl rfl (fun b1 => zH rfl (zA (zB (zO (o := 2) rfl rfl (zU 0 (v := Vi x.op) rfl rfl rfl rfl (yU rfl rfl rfl (zC rfl (yD (q := 1 ≤ x.op) 3 3 [9, 8, 7] (x.op ≤ 5) rfl rfl rfl rfl rfl rfl trivial rfl (fun h1_3 => ?_) (fun g1_7 => ?_))))))))))
  ·
   refine zR rfl (gT h1_3) (zO (o := 2) rfl rfl (zR rfl (gT h1_3) (zU 0 (v := Vi x.op) rfl rfl rfl rfl (zR rfl (gT h1_3) (x5 rfl rfl rfl ?_)))))
   exact yH rfl (fun _ hw => hw)
  refine zC rfl (yD (q := (1 ≤ x.op) ∧ (x.op ≤ 5)) 4 8 [15, 14, 13, 12] (((x.key.size : Nat) : Int) ≤ 64) rfl rfl rfl rfl rfl rfl trivial rfl (fun h1_8 => ?_) (fun g1_13 => ?_))
  ·
   refine zR rfl (gT h1_8) (zO (o := 3) rfl rfl (zR rfl (gT h1_8) (zU 0 (v := .string x.key) rfl rfl rfl rfl (zR rfl (gT h1_8) (zAC (by kernel_rfl) rfl rfl (zR rfl (gT h1_8) (x5 rfl rfl rfl ?_)))))))
   exact yH rfl (fun _ hw => hw)
  refine zH rfl (zA ?_)
  exact zN (z4 (v := .bool (decide (((1 ≤ x.op) ∧ (x.op ≤ 5)) ∧ (((x.key.size : Nat) : Int) ≤ 64)))) rfl rfl (fun w' hw => ⟨(by congr 1; exact decide_eq_decide.2 (by unfold CmdD.ok; omega)), hw.drop⟩))
theorem zEe {S : List Nat} (o : Nat) (sl : Value) (bs : List UInt8) (x : CmdD) (w : World) (hx : x.wf) (hb : bs.length ≤ 1000000000) (hin : Own w S [Res.bv o xa sl bs] w) : Rets Tryz.prog 59 #[.pointer (some ⟨o, 0, none⟩), .agg (CmdD.cells x).toArray] w fun u_ w' => ∃ (sl' : Value), u_ = .tuple #[] ∧ Own w S [Res.bv o xa sl' (bs ++ x.enc)] w' := by
  have hk : x.key.data.toList.length = x.key.size := zD4 x.key
  have hk2 := hx.key
  have hd := zEY x.key.data.toList (by omega)
  have hn1 := zAh (ns := [x.session, x.seq, u64 x.op]) (by have := hx.session; have := hx.seq; simp [zDC, *])
  simp only [List.length_cons, List.length_nil] at hn1
  refine ze Tryz.func59 rfl Tryz.ntmps59 hin ?_
  refine zB (yj rfl rfl (fun b3 => zA (zB (zC rfl (zO (o := 0) rfl rfl (zU 1 (v := Vn x.session) rfl rfl rfl rfl (zO (o := 1) rfl rfl (zU 1 (v := Vn x.seq) rfl rfl rfl rfl (zO (o := 2) rfl rfl (zU 1 (v := Vi x.op) rfl rfl rfl rfl (yp (by kernel_rfl) rfl (kg _) rfl ?_ (by kernel_rfl))))))))))))
  refine yh (e := 32) (sz := 1) (vs := [Vn x.session, Vn x.seq, Vn (u64 x.op)]) (by kernel_rfl) rfl rfl (by simp [Value.cells]) (by decide) rfl (fun b12 => zQ rfl rfl (fun w' hw => (zEf o _ _ (.slice (some ⟨b12, 0, none⟩) 3 3) [x.session, x.seq, u64 x.op] w' (by have := hx.session; have := hx.seq; simp [zDC, *]) (by first | omega | (simp <;> omega) | (constructor <;> (first | omega | (simp <;> omega)))) (hw.give [0] rfl (by decide)) (hw.rdVec 2 rfl [0] rfl rfl)).mono ?_))
  rintro _ w1 ⟨sl'1_, rfl, hO⟩
  refine (?_ : CL _ _ _ _ _ _ (Own w S [Res.row b3 54 (CmdD.cells x), Res.vec 32 1 (.slice (some ⟨b12, 0, none⟩) 3 3) [x.session, x.seq, u64 x.op].length ([x.session, x.seq, u64 x.op].flatMap U1), Res.bv o xa sl'1_ (bs ++ yu [x.session, x.seq, u64 x.op])])) w1 (hw.frameL [0] rfl hO)
  refine zA (zB (zC rfl (zO (o := 3) rfl rfl (zU 0 (v := .string x.key) rfl rfl rfl rfl (zLQ (by kernel_rfl) (by kernel_rfl) rfl (by rw [yg]; omega) rfl (fun v17 => ?_))))))
  refine xc (fun w' hw => Sl.cell1 (Own.holds hw 3 _ rfl)) (fun hc1_ => ?_)
  refine zJy (e := 46) (vs := [v17]) (by kernel_rfl) rfl rfl (zFk hc1_ zHQ) (by decide) rfl (fun b18 => zQ rfl rfl (fun w' hw => (zKm o sl'1_ (bs ++ yu [x.session, x.seq, u64 x.op]) (.slice (some ⟨b18, 0, none⟩) 1 1) [(v17, x.key.data.toList)] w' (by simp [y4]; omega) (by show 1 ≤ _; omega) (hw.give [2] rfl (by decide)) (hw.rdVec 4 rfl [2] rfl rfl) (all_cons (hw.rdRes 3 rfl [2] rfl rfl) (fun p hp => by cases hp))).mono ?_))
  rintro _ w1 ⟨sl'2_, rfl, hO⟩
  refine (?_ : CL _ _ _ _ _ _ (Own w S [Res.row b3 54 (CmdD.cells x), Res.vec 32 1 (.slice (some ⟨b12, 0, none⟩) 3 3) [x.session, x.seq, u64 x.op].length ([x.session, x.seq, u64 x.op].flatMap U1), Res.sl v17 x.key.data.toList.length (x.key.data.toList.map vb), Res.vec 46 1 (.slice (some ⟨b18, 0, none⟩) 1 1) [(v17, x.key.data.toList)].length ([(v17, x.key.data.toList)].flatMap pv), Res.bv o xa sl'2_ ((bs ++ yu [x.session, x.seq, u64 x.op]) ++ y4 [(v17, x.key.data.toList)])])) w1 (hw.frameL [2] rfl hO)
  refine zA (zY (zC rfl (zO (o := 4) rfl rfl (zU 0 (v := Vi x.amount) rfl rfl rfl rfl (yp (by kernel_rfl) rfl (kg _) rfl ?_ (by kernel_rfl))))))
  refine zO (o := 5) rfl rfl (zU 0 (v := Vi x.span) rfl rfl rfl rfl (yp (by kernel_rfl) rfl (kg _) rfl ?_ (by kernel_rfl)))
  refine zO (o := 6) rfl rfl (zU 0 (v := Vn x.lease) rfl rfl rfl rfl (yh (e := 32) (sz := 1) (vs := [Vn (u64 x.amount), Vn (u64 x.span), Vn x.lease]) (by kernel_rfl) rfl rfl (by simp [Value.cells]) (by decide) rfl (fun b29 => zQ rfl rfl (fun w' hw => (zEf o sl'2_ ((bs ++ yu [x.session, x.seq, u64 x.op]) ++ y4 [(v17, x.key.data.toList)]) (.slice (some ⟨b29, 0, none⟩) 3 3) [u64 x.amount, u64 x.span, x.lease] w' (by have := hx.lease; simp [zDC, *]) (by simp [y4]; omega) (hw.give [4] rfl (by decide)) (hw.rdVec 5 rfl [4] rfl rfl)).mono ?_))))
  rintro _ w1 ⟨sl'3_, rfl, hO⟩
  refine (?_ : CL _ _ _ _ _ _ (Own w S [Res.row b3 54 (CmdD.cells x), Res.vec 32 1 (.slice (some ⟨b12, 0, none⟩) 3 3) [x.session, x.seq, u64 x.op].length ([x.session, x.seq, u64 x.op].flatMap U1), Res.sl v17 x.key.data.toList.length (x.key.data.toList.map vb), Res.vec 46 1 (.slice (some ⟨b18, 0, none⟩) 1 1) [(v17, x.key.data.toList)].length ([(v17, x.key.data.toList)].flatMap pv), Res.vec 32 1 (.slice (some ⟨b29, 0, none⟩) 3 3) [u64 x.amount, u64 x.span, x.lease].length ([u64 x.amount, u64 x.span, x.lease].flatMap U1), Res.bv o xa sl'3_ (((bs ++ yu [x.session, x.seq, u64 x.op]) ++ y4 [(v17, x.key.data.toList)]) ++ yu [u64 x.amount, u64 x.span, x.lease])])) w1 (hw.frameL [4] rfl hO)
  exact zd (j8 rfl (fun w' hw => ⟨sl'3_, rfl, by have h := hw.one 5 rfl; simpa [CmdD.enc, y4, zH5] using h⟩))
theorem zEN (w : World) : Rets Tryz.prog 50 #[] w fun u_ w' => u_ = .agg #[.func (.func 58) #[] #[], .func (.func 59) #[] #[], .func (.func 62) #[] #[]] ∧ Own w [] [] w' := by
  refine ze Tryz.func50 rfl Tryz.ntmps50 (Own.start w) ?_
  refine zB (yG (v := .agg #[.nilFunc, .nilFunc, .nilFunc]) (by kernel_rfl) rfl (fun b0 => zA (zB (z8 (cs := [.func (.func 58) #[] #[], .func (.func 59) #[] #[], .func (.func 62) #[] #[]]) (z := [.nilFunc, .nilFunc, .nilFunc]) (pl := [(0, 1), (1, 1), (2, 1)]) (by kernel_rfl) (by kernel_rfl) rfl (zm 0 rfl rfl rfl (zw rfl) rfl (zA ?_))))))
  exact zN (zCx (cs := [.func (.func 58) #[] #[], .func (.func 59) #[] #[], .func (.func 62) #[] #[]]) rfl rfl (by kernel_rfl) (Own.rowCells (i := 0) rfl) (fun w' hw => ⟨rfl, hw.drop⟩))
theorem zEC (x : CmdD) (w : World) (hx : x.wf) : Rets Tryz.prog 51 #[.agg #[.func (.func 58) #[] #[], .func (.func 59) #[] #[], .func (.func 62) #[] #[]], .agg (CmdD.cells x).toArray] w fun u_ w' => ∃ (r : Value), u_ = .tuple #[r, Vi (yl x.ok)] ∧ Own w [] [Res.vec 5 1 r (if x.ok then x.enc else []).length ((if x.ok then x.enc else []).map vb)] w' := by
  have hk := hx.key
  refine ze Tryz.func51 rfl Tryz.ntmps51 (Own.start w) ?_
  refine zB (yj rfl rfl (fun b2 => yj rfl rfl (fun b3 => zH rfl (zH rfl (zA (zL (zB (zO (o := 0) rfl rfl (zU 0 (v := .func (.func 58) #[] #[]) rfl rfl rfl rfl (yN (cs := (CmdD.cells x)) 1 rfl rfl rfl (x8 (fst := []) (cap := []) rfl (by kernel_rfl) rfl rfl (fun w' hw => (zEO x w' (by first | omega | (simp <;> omega))).mono ?_))))))))))))
  rintro _ w1 ⟨rfl, hO⟩
  refine (?_ : CL _ _ _ _ _ _ (Own w [] [Res.row b2 121 [.func (.func 58) #[] #[], .func (.func 59) #[] #[], .func (.func 62) #[] #[]], Res.row b3 54 (CmdD.cells x)])) w1 (hw.frame0 hO)
  refine xn (q := x.ok) rfl rfl (zA (zV rfl (fun c1 => ?_) (fun c1 => ?_)))
  ·
   refine zB (zH rfl (zH rfl (zA ?_)))
   exact zN (yo (v := .slice none 0 0) (v' := Vi 2) rfl rfl rfl (fun w' hw => ⟨.slice none 0 0, (by rw [zE7 c1]), by rw [if_neg c1]; exact (yZ hw T8 1).one 2 rfl⟩))
  ·
   refine zJ (zB (z8 (cs := [.slice none 0 0]) (z := [.slice none 0 0]) (pl := [(0, 1)]) (by kernel_rfl) (by kernel_rfl) rfl (yj rfl rfl (fun b13 => zH rfl (zA (zB (zO (o := 1) rfl rfl (zU 0 (v := .func (.func 59) #[] #[]) rfl rfl rfl rfl (zC rfl (yN (cs := (CmdD.cells x)) 1 rfl rfl rfl ?_))))))))))
   refine zCK [Res.row b2 121 [.func (.func 58) #[] #[], .func (.func 59) #[] #[], .func (.func 62) #[] #[]], Res.row b3 54 (CmdD.cells x), Res.bv b13 xa (.slice none 0 0) ([] : List UInt8)] (fun w' hw => (yZ hw T8 1).joinBv (i := 2) (j := 3) (by decide) rfl rfl) ?_
   refine x8 (fst := []) (cap := []) rfl (by kernel_rfl) rfl rfl (fun w' hw => (zEe b13 (.slice none 0 0) ([] : List UInt8) x w' ‹_› (by first | omega | (simp <;> omega) | (constructor <;> (first | omega | (simp <;> omega)))) (hw.give [2] rfl (by decide))).mono ?_)
   rintro _ w1 ⟨sl'1_, rfl, hO⟩
   refine (?_ : CL _ _ _ _ _ _ (Own w [] [Res.row b2 121 [.func (.func 58) #[] #[], .func (.func 59) #[] #[], .func (.func 62) #[] #[]], Res.row b3 54 (CmdD.cells x), Res.bv b13 xa sl'1_ (([] : List UInt8) ++ x.enc)])) w1 (hw.frameL [2] rfl hO)
   refine zA (zB (zC rfl (zt rfl rfl (zO (o := 0) rfl rfl ?_))))
   refine zCK [Res.row b2 121 [.func (.func 58) #[] #[], .func (.func 59) #[] #[], .func (.func 62) #[] #[]], Res.row b3 54 (CmdD.cells x), Res.row b13 xa [sl'1_], Res.vec 5 1 sl'1_ (([] : List UInt8) ++ x.enc).length ((([] : List UInt8) ++ x.enc).map vb)] (fun w' hw => hw.splitBv (i := 2) (o := b13) (T := xa) (v := sl'1_) (bs := (([] : List UInt8) ++ x.enc)) rfl) ?_
   refine zU 2 (v := sl'1_) rfl rfl rfl rfl (zH rfl (zH rfl (zA ?_)))
   exact zN (yo (v := sl'1_) (v' := Vi 0) rfl rfl rfl (fun w' hw => ⟨sl'1_, (by rw [zEw (Decidable.not_not.1 c1)]), by rw [if_pos (Decidable.not_not.1 c1)]; exact hw.one 3 rfl⟩))
theorem zAT (x : CmdD) (w : World) (hx : x.wf) : Rets Tryz.prog 42 #[.agg (CmdD.cells x).toArray] w fun u_ w' => ∃ (r : Value), u_ = .tuple #[r, Vi (yl x.ok)] ∧ Own w [] [Res.vec 5 1 r (if x.ok then x.enc else []).length ((if x.ok then x.enc else []).map vb)] w' := by
  refine ze Tryz.func42 rfl Tryz.ntmps42 (Own.start w) ?_
  refine zB (yj rfl rfl (fun b1 => zH rfl (zH rfl (zA (zL (zZ [0] rfl (by decide) (by kernel_rfl) (fun w' hw hS => zD 1 rfl (xh (cs := (CmdD.cells x)) 0 rfl rfl) hS (zX 0 rfl hw (zQ rfl rfl (fun w' hw => (zEN w').mono ?_))))))))))
  rintro _ w1 ⟨rfl, hO⟩
  refine (?_ : CL _ _ _ _ _ _ (Own w [] [Res.row b1 54 (CmdD.cells x)])) w1 (hw.frame0 hO)
  refine zE [0] rfl (by decide) (fun w' hw hS => zX 2 rfl hw (zQ rfl rfl (fun w' hw => (zEC x w' ‹_›).mono ?_)))
  rintro _ w1 ⟨r1_, rfl, hO⟩
  refine (?_ : CL _ _ _ _ _ _ (Own w [] [Res.row b1 54 (CmdD.cells x), Res.vec 5 1 r1_ (if x.ok then x.enc else []).length ((if x.ok then x.enc else []).map vb)])) w1 (hw.frame0 hO)
  refine zE [0] rfl (by decide) (fun w' hw hS => zD 3 rfl (yS (vs := [r1_, Vi (yl x.ok)]) rfl rfl) hS (zD 4 rfl (yS (vs := [r1_, Vi (yl x.ok)]) rfl rfl) hS (zD 5 rfl (y8) hS (zD 6 rfl (y8) hS (zM ?_)))))
  refine (?_ : C _ _ _ _ _ _ _ (Own w [] [Res.row b1 54 (CmdD.cells x), Res.vec 5 1 r1_ (if x.ok then x.enc else []).length ((if x.ok then x.enc else []).map vb)])) _ hw
  exact zN (yo (v := r1_) (v' := Vi (yl x.ok)) rfl rfl rfl (fun w' hw => ⟨r1_, rfl, hw.sel [1] rfl (by decide)⟩))
theorem zEi (x : RepD) (w : World) : Rets Tryz.prog 113 #[.agg (RepD.cells x).toArray] w fun u_ w' => u_ = .bool (decide x.ok) ∧ Own w [] [] w' := by
  refine ze Tryz.func113 rfl Tryz.ntmps113 (Own.start w) ?_
  refine zB (yj rfl rfl (fun b1 => zH rfl (zA (zB (zO (o := 2) rfl rfl (zU 0 (v := Vi x.e) rfl rfl rfl rfl (yU rfl rfl rfl (zC rfl (yD (q := 0 ≤ x.e) 3 3 [9, 8, 7] (x.e ≤ 20) rfl rfl rfl rfl rfl rfl trivial rfl (fun h1_3 => ?_) (fun g1_7 => ?_))))))))))
  ·
   refine zR rfl (gT h1_3) (zO (o := 2) rfl rfl (zR rfl (gT h1_3) (zU 0 (v := Vi x.e) rfl rfl rfl rfl (zR rfl (gT h1_3) (x5 rfl rfl rfl ?_)))))
   exact yH rfl (fun _ hw => hw)
  refine zH rfl (zA ?_)
  exact zN (z4 (v := .bool (decide ((0 ≤ x.e) ∧ (x.e ≤ 20)))) rfl rfl (fun w' hw => ⟨rfl, hw.drop⟩))
theorem zEJ {S : List Nat} (o : Nat) (sl : Value) (bs : List UInt8) (x : RepD) (w : World) (hx : x.wf) (hb : bs.length ≤ 1000000000) (hin : Own w S [Res.bv o xa sl bs] w) : Rets Tryz.prog 114 #[.pointer (some ⟨o, 0, none⟩), .agg (RepD.cells x).toArray] w fun u_ w' => ∃ (sl' : Value), u_ = .tuple #[] ∧ Own w S [Res.bv o xa sl' (bs ++ x.enc)] w' := by
  refine ze Tryz.func114 rfl Tryz.ntmps114 hin ?_
  refine zB (yj rfl rfl (fun b3 => zA (zY (zC rfl (zO (o := 0) rfl rfl (zU 1 (v := Vn x.session) rfl rfl rfl rfl (zO (o := 1) rfl rfl (zU 1 (v := Vn x.seq) rfl rfl rfl rfl (zO (o := 2) rfl rfl (zU 1 (v := Vi x.e) rfl rfl rfl rfl (yp (by kernel_rfl) rfl (kg _) rfl ?_ (by kernel_rfl))))))))))))
  refine zO (o := 3) rfl rfl (zU 1 (v := Vn x.lease) rfl rfl rfl rfl (zO (o := 4) rfl rfl (zU 1 (v := Vi x.amount) rfl rfl rfl rfl (yp (by kernel_rfl) rfl (kg _) rfl ?_ (by kernel_rfl)))))
  refine zO (o := 5) rfl rfl (zU 1 (v := Vi x.until_) rfl rfl rfl rfl (yp (by kernel_rfl) rfl (kg _) rfl ?_ (by kernel_rfl)))
  refine yh (e := 32) (sz := 1) (vs := [Vn x.session, Vn x.seq, Vn (u64 x.e), Vn x.lease, Vn (u64 x.amount), Vn (u64 x.until_)]) (by kernel_rfl) rfl rfl (by simp [Value.cells]) (by decide) rfl (fun b20 => zQ rfl rfl (fun w' hw => (zEf o _ _ (.slice (some ⟨b20, 0, none⟩) 6 6) [x.session, x.seq, u64 x.e, x.lease, u64 x.amount, u64 x.until_] w' (by have := hx.session; have := hx.seq; have := hx.lease; simp [zDC, *]) (by first | omega | (simp <;> omega) | (constructor <;> (first | omega | (simp <;> omega)))) (hw.give [0] rfl (by decide)) (hw.rdVec 2 rfl [0] rfl rfl)).mono ?_))
  rintro _ w1 ⟨sl'1_, rfl, hO⟩
  refine (?_ : CL _ _ _ _ _ _ (Own w S [Res.row b3 50 (RepD.cells x), Res.vec 32 1 (.slice (some ⟨b20, 0, none⟩) 6 6) [x.session, x.seq, u64 x.e, x.lease, u64 x.amount, u64 x.until_].length ([x.session, x.seq, u64 x.e, x.lease, u64 x.amount, u64 x.until_].flatMap U1), Res.bv o xa sl'1_ (bs ++ yu [x.session, x.seq, u64 x.e, x.lease, u64 x.amount, u64 x.until_])])) w1 (hw.frameL [0] rfl hO)
  exact zd (j8 rfl (fun w' hw => ⟨sl'1_, rfl, hw.sel [2] rfl (by decide)⟩))
theorem zFb (w : World) : Rets Tryz.prog 109 #[] w fun u_ w' => u_ = .agg #[.func (.func 113) #[] #[], .func (.func 114) #[] #[], .func (.func 115) #[] #[]] ∧ Own w [] [] w' := by
  refine ze Tryz.func109 rfl Tryz.ntmps109 (Own.start w) ?_
  refine zB (yG (v := .agg #[.nilFunc, .nilFunc, .nilFunc]) (by kernel_rfl) rfl (fun b0 => zA (zB (z8 (cs := [.func (.func 113) #[] #[], .func (.func 114) #[] #[], .func (.func 115) #[] #[]]) (z := [.nilFunc, .nilFunc, .nilFunc]) (pl := [(0, 1), (1, 1), (2, 1)]) (by kernel_rfl) (by kernel_rfl) rfl (zm 0 rfl rfl rfl (zw rfl) rfl (zA ?_))))))
  exact zN (zCx (cs := [.func (.func 113) #[] #[], .func (.func 114) #[] #[], .func (.func 115) #[] #[]]) rfl rfl (by kernel_rfl) (Own.rowCells (i := 0) rfl) (fun w' hw => ⟨rfl, hw.drop⟩))
theorem zEI (x : RepD) (w : World) (hx : x.wf) : Rets Tryz.prog 110 #[.agg #[.func (.func 113) #[] #[], .func (.func 114) #[] #[], .func (.func 115) #[] #[]], .agg (RepD.cells x).toArray] w fun u_ w' => ∃ (r : Value), u_ = .tuple #[r, Vi (yl x.ok)] ∧ Own w [] [Res.vec 5 1 r (if x.ok then x.enc else []).length ((if x.ok then x.enc else []).map vb)] w' := by
  refine ze Tryz.func110 rfl Tryz.ntmps110 (Own.start w) ?_
  refine zB (yj rfl rfl (fun b2 => yj rfl rfl (fun b3 => zH rfl (zH rfl (zA (zL (zB (zO (o := 0) rfl rfl (zU 0 (v := .func (.func 113) #[] #[]) rfl rfl rfl rfl (yN (cs := (RepD.cells x)) 1 rfl rfl rfl (x8 (fst := []) (cap := []) rfl (by kernel_rfl) rfl rfl (fun w' hw => (zEi x w').mono ?_))))))))))))
  rintro _ w1 ⟨rfl, hO⟩
  refine (?_ : CL _ _ _ _ _ _ (Own w [] [Res.row b2 187 [.func (.func 113) #[] #[], .func (.func 114) #[] #[], .func (.func 115) #[] #[]], Res.row b3 50 (RepD.cells x)])) w1 (hw.frame0 hO)
  refine xn (q := x.ok) rfl rfl (zA (zV rfl (fun c1 => ?_) (fun c1 => ?_)))
  ·
   refine zB (zH rfl (zH rfl (zA ?_)))
   exact zN (yo (v := .slice none 0 0) (v' := Vi 2) rfl rfl rfl (fun w' hw => ⟨.slice none 0 0, (by rw [zE7 c1]), by rw [if_neg c1]; exact (yZ hw T8 1).one 2 rfl⟩))
  ·
   refine zJ (zB (z8 (cs := [.slice none 0 0]) (z := [.slice none 0 0]) (pl := [(0, 1)]) (by kernel_rfl) (by kernel_rfl) rfl (yj rfl rfl (fun b13 => zH rfl (zA (zB (zO (o := 1) rfl rfl (zU 0 (v := .func (.func 114) #[] #[]) rfl rfl rfl rfl (zC rfl (yN (cs := (RepD.cells x)) 1 rfl rfl rfl ?_))))))))))
   refine zCK [Res.row b2 187 [.func (.func 113) #[] #[], .func (.func 114) #[] #[], .func (.func 115) #[] #[]], Res.row b3 50 (RepD.cells x), Res.bv b13 xa (.slice none 0 0) ([] : List UInt8)] (fun w' hw => (yZ hw T8 1).joinBv (i := 2) (j := 3) (by decide) rfl rfl) ?_
   refine x8 (fst := []) (cap := []) rfl (by kernel_rfl) rfl rfl (fun w' hw => (zEJ b13 (.slice none 0 0) ([] : List UInt8) x w' ‹_› (by first | omega | (simp <;> omega) | (constructor <;> (first | omega | (simp <;> omega)))) (hw.give [2] rfl (by decide))).mono ?_)
   rintro _ w1 ⟨sl'1_, rfl, hO⟩
   refine (?_ : CL _ _ _ _ _ _ (Own w [] [Res.row b2 187 [.func (.func 113) #[] #[], .func (.func 114) #[] #[], .func (.func 115) #[] #[]], Res.row b3 50 (RepD.cells x), Res.bv b13 xa sl'1_ (([] : List UInt8) ++ x.enc)])) w1 (hw.frameL [2] rfl hO)
   refine zA (zB (zC rfl (zt rfl rfl (zO (o := 0) rfl rfl ?_))))
   refine zCK [Res.row b2 187 [.func (.func 113) #[] #[], .func (.func 114) #[] #[], .func (.func 115) #[] #[]], Res.row b3 50 (RepD.cells x), Res.row b13 xa [sl'1_], Res.vec 5 1 sl'1_ (([] : List UInt8) ++ x.enc).length ((([] : List UInt8) ++ x.enc).map vb)] (fun w' hw => hw.splitBv (i := 2) (o := b13) (T := xa) (v := sl'1_) (bs := (([] : List UInt8) ++ x.enc)) rfl) ?_
   refine zU 2 (v := sl'1_) rfl rfl rfl rfl (zH rfl (zH rfl (zA ?_)))
   exact zN (yo (v := sl'1_) (v' := Vi 0) rfl rfl rfl (fun w' hw => ⟨sl'1_, (by rw [zEw (Decidable.not_not.1 c1)]), by rw [if_pos (Decidable.not_not.1 c1)]; exact hw.one 3 rfl⟩))
theorem zEH (x : RepD) (w : World) (hx : x.wf) : Rets Tryz.prog 95 #[.agg (RepD.cells x).toArray] w fun u_ w' => ∃ (r : Value), u_ = .tuple #[r, Vi (yl x.ok)] ∧ Own w [] [Res.vec 5 1 r (if x.ok then x.enc else []).length ((if x.ok then x.enc else []).map vb)] w' := by
  refine ze Tryz.func95 rfl Tryz.ntmps95 (Own.start w) ?_
  refine zB (yj rfl rfl (fun b1 => zH rfl (zH rfl (zA (zL (zZ [0] rfl (by decide) (by kernel_rfl) (fun w' hw hS => zD 1 rfl (xh (cs := (RepD.cells x)) 0 rfl rfl) hS (zX 0 rfl hw (zQ rfl rfl (fun w' hw => (zFb w').mono ?_))))))))))
  rintro _ w1 ⟨rfl, hO⟩
  refine (?_ : CL _ _ _ _ _ _ (Own w [] [Res.row b1 50 (RepD.cells x)])) w1 (hw.frame0 hO)
  refine zE [0] rfl (by decide) (fun w' hw hS => zX 2 rfl hw (zQ rfl rfl (fun w' hw => (zEI x w' ‹_›).mono ?_)))
  rintro _ w1 ⟨r1_, rfl, hO⟩
  refine (?_ : CL _ _ _ _ _ _ (Own w [] [Res.row b1 50 (RepD.cells x), Res.vec 5 1 r1_ (if x.ok then x.enc else []).length ((if x.ok then x.enc else []).map vb)])) w1 (hw.frame0 hO)
  refine zE [0] rfl (by decide) (fun w' hw hS => zD 3 rfl (yS (vs := [r1_, Vi (yl x.ok)]) rfl rfl) hS (zD 4 rfl (yS (vs := [r1_, Vi (yl x.ok)]) rfl rfl) hS (zD 5 rfl (y8) hS (zD 6 rfl (y8) hS (zM ?_)))))
  refine (?_ : C _ _ _ _ _ _ _ (Own w [] [Res.row b1 50 (RepD.cells x), Res.vec 5 1 r1_ (if x.ok then x.enc else []).length ((if x.ok then x.enc else []).map vb)])) _ hw
  exact zN (yo (v := r1_) (v' := Vi (yl x.ok)) rfl rfl rfl (fun w' hw => ⟨r1_, rfl, hw.sel [1] rfl (by decide)⟩))
theorem zHi (r s : CmdD) : eqL [(0, some (some .u64)), (1, some (some .u64)), (2, some (some .i64)), (3, some none), (4, some (some .i64)), (5, some (some .i64)), (6, some (some .u64))] r.cells s.cells = decide (r = s) := by
  obtain ⟨a, b, c, d, e, f, g⟩ := r
  obtain ⟨a', b', c', d', e', f', g'⟩ := s
  simp [eqL, CmdD.cells, eqC, CmdD.mk.injEq, Bool.decide_and]
  have h : ∀ m n : Nat, decide ((m : Int) = n) = decide (m = n) := fun m n => decide_eq_decide.2 (by omega)
  simp only [h]
def zKn (l : List UInt8) : ByteArray := ⟨l.toArray⟩
def zL2 : List UInt8 → Nat → Option (CmdD × Nat) := xE zBI fun s => xE zBI fun q => xE (zIM 5) fun o => xE zJz fun k => xE zBI fun a => xE zBI fun p => xE zBI fun l => zAS ⟨s, q, o, zKn k, toI a, toI p, l⟩
def zMH : List UInt8 → Nat → Option (RepD × Nat) := xE zBI fun s => xE zBI fun q => xE (zIM 20) fun e => xE zBI fun l => xE zBI fun a => xE zBI fun u => zAS ⟨s, q, e, l, toI a, toI u⟩
def zIh : CmdD := ⟨0, 0, 0, ⟨#[]⟩, 0, 0, 0⟩
def repZ : RepD := ⟨0, 0, 0, 0, 0, 0⟩
instance : DecidablePred CmdD.ok := fun x => inferInstance
instance : DecidablePred RepD.ok := fun x => inferInstance
def decCmd (b : List UInt8) : Option CmdD := zBm zL2 CmdD.ok b
def decRpl (b : List UInt8) : Option RepD := zBm zMH RepD.ok b
theorem zDL (x : CmdD) (w : World) (hx : x.key.size ≤ 1048576) : Rets Tryz.prog 19 #[.agg (CmdD.cells x).toArray] w fun u_ w' => u_ = .bool (decide x.ok) ∧ Own w [] [] w' := by
  refine ze Tryz.func19 rfl Tryz.ntmps19 (Own.start w) ?_
  refine zB (yj rfl rfl (fun b1 => zH rfl (zA (zB (zO (o := 2) rfl rfl (zU 0 (v := Vi x.op) rfl rfl rfl rfl (yU rfl rfl rfl (zC rfl (yD (q := 1 ≤ x.op) 3 3 [9, 8, 7] (x.op ≤ 5) rfl rfl rfl rfl rfl rfl trivial rfl (fun h1_3 => ?_) (fun g1_7 => ?_))))))))))
  ·
   refine zR rfl (gT h1_3) (zO (o := 2) rfl rfl (zR rfl (gT h1_3) (zU 0 (v := Vi x.op) rfl rfl rfl rfl (zR rfl (gT h1_3) (x5 rfl rfl rfl ?_)))))
   exact yH rfl (fun _ hw => hw)
  refine zC rfl (yD (q := (1 ≤ x.op) ∧ (x.op ≤ 5)) 4 8 [15, 14, 13, 12] (((x.key.size : Nat) : Int) ≤ 64) rfl rfl rfl rfl rfl rfl trivial rfl (fun h1_8 => ?_) (fun g1_13 => ?_))
  ·
   refine zR rfl (gT h1_8) (zO (o := 3) rfl rfl (zR rfl (gT h1_8) (zU 0 (v := .string x.key) rfl rfl rfl rfl (zR rfl (gT h1_8) (zAC (by kernel_rfl) rfl rfl (zR rfl (gT h1_8) (x5 rfl rfl rfl ?_)))))))
   exact yH rfl (fun _ hw => hw)
  refine zH rfl (zA ?_)
  exact zN (z4 (v := .bool (decide (((1 ≤ x.op) ∧ (x.op ≤ 5)) ∧ (((x.key.size : Nat) : Int) ≤ 64)))) rfl rfl (fun w' hw => ⟨(by congr 1; exact decide_eq_decide.2 (by unfold CmdD.ok; omega)), hw.drop⟩))
end Go.Proofs.YtcdiehplbmkmeaaGreat
