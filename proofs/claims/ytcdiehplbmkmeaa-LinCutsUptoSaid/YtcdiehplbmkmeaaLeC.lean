import Derived.Test.YtcdiehplbmkmeaaFwN
set_option linter.unusedSectionVars false
set_option linter.unusedSimpArgs false
set_option linter.unusedVariables false
set_option maxRecDepth 10000
namespace Go.Proofs.Ytcdiehplbmkmeaa
open Go Go.Sc Go.Proofs
def toI (n : Nat) : Int := if n ≤ 9223372036854775807 then n else (n : Int) - 18446744073709551616
theorem RdS.int {most : Nat} {b : List UInt8} {a a1 n : Nat} {bad bad1 : Bool} (h : RdS (zGf most) b a bad n a1 bad1) : RdS (zH3 most) b a bad (n : Int) a1 bad1 := RdS.map (fun n : Nat => (n : Int)) h
structure CmdD where
  session : Nat
  seq : Nat
  op : Int
  key : ByteArray
  amount : Int
  span : Int
  lease : Nat
  deriving DecidableEq
structure CmdD.wf (x : CmdD) : Prop where
  session : x.session < 18446744073709551616
  seq : x.seq < 18446744073709551616
  key : x.key.size ≤ 1048576
  amount : ye x.amount
  span : ye x.span
  lease : x.lease < 18446744073709551616
def CmdD.cells (x : CmdD) : List Value := [.int .u64 x.session, .int .u64 x.seq, .int .i64 x.op, .string x.key, .int .i64 x.amount, .int .i64 x.span, .int .u64 x.lease]
def CmdD.ok (x : CmdD) : Prop := (1 ≤ x.op ∧ x.op ≤ 5) ∧ x.key.size ≤ 64
instance (x : CmdD) : Decidable x.ok := inferInstanceAs (Decidable ((_ ∧ _) ∧ _))
def zH9 (s : ByteArray) : List UInt8 := s.data.toList
theorem zDD (s : ByteArray) : (zH9 s).length = s.size := by unfold zH9; rw [Array.length_toList]; rfl
def CmdD.enc (x : CmdD) : List UInt8 := yX [x.session, x.seq, u64 x.op] ++ dat (zH9 x.key) ++ yX [u64 x.amount, u64 x.span, x.lease]
structure RepD where
  session : Nat
  seq : Nat
  e : Int
  lease : Nat
  amount : Int
  until_ : Int
  deriving DecidableEq
structure RepD.wf (r : RepD) : Prop where
  session : r.session < 18446744073709551616
  seq : r.seq < 18446744073709551616
  lease : r.lease < 18446744073709551616
  amount : ye r.amount
  until_ : ye r.until_
def RepD.cells (r : RepD) : List Value := [.int .u64 r.session, .int .u64 r.seq, .int .i64 r.e, .int .u64 r.lease, .int .i64 r.amount, .int .i64 r.until_]
def RepD.ok (r : RepD) : Prop := 0 ≤ r.e ∧ r.e ≤ 20
instance (r : RepD) : Decidable r.ok := inferInstanceAs (Decidable (_ ∧ _))
def RepD.enc (r : RepD) : List UInt8 := yX [r.session, r.seq, u64 r.e, r.lease, u64 r.amount, u64 r.until_]
theorem zDf (x : CmdD) (w : World) (hx : x.key.size ≤ 1048576) : Rets Try.prog 38 #[.agg (CmdD.cells x).toArray] w fun u_ w' => u_ = .bool (decide x.ok) ∧ Own w [] [] w' := by
  refine zh Try.func38 rfl Try.ntmps38 (Own.start w) ?_
  refine zB (yh rfl rfl (fun b1 => zH rfl (zA (zB (zW (o := 2) rfl rfl (zd 0 (v := Vi x.op) rfl rfl rfl rfl (yY rfl rfl rfl (zC rfl (yZ (q := 1 ≤ x.op) 3 3 [9, 8, 7] (x.op ≤ 5) rfl rfl rfl rfl rfl rfl trivial rfl (fun h1_3 => ?_) (fun g1_7 => ?_))))))))))
  ·
   refine zV rfl (gT h1_3) (zW (o := 2) rfl rfl (zV rfl (gT h1_3) (zd 0 (v := Vi x.op) rfl rfl rfl rfl (zV rfl (gT h1_3) (zAj rfl rfl rfl ?_)))))
   exact yi rfl (fun _ hw => hw)
  refine zC rfl (yZ (q := (1 ≤ x.op) ∧ (x.op ≤ 5)) 4 8 [15, 14, 13, 12] (((x.key.size : Nat) : Int) ≤ 64) rfl rfl rfl rfl rfl rfl trivial rfl (fun h1_8 => ?_) (fun g1_13 => ?_))
  ·
   refine zV rfl (gT h1_8) (zW (o := 3) rfl rfl (zV rfl (gT h1_8) (zd 0 (v := .string x.key) rfl rfl rfl rfl (zV rfl (gT h1_8) (zFf (by kernel_rfl) rfl rfl (zV rfl (gT h1_8) (zAj rfl rfl rfl ?_)))))))
   exact yi rfl (fun _ hw => hw)
  refine zH rfl (zA ?_)
  exact zR (z3 (v := .bool (decide (((1 ≤ x.op) ∧ (x.op ≤ 5)) ∧ (((x.key.size : Nat) : Int) ≤ 64)))) rfl rfl (fun w' hw => ⟨(by congr 1; exact decide_eq_decide.2 (by unfold CmdD.ok; omega)), hw.drop⟩))
theorem zDz {S : List Nat} (o : Nat) (sl : Value) (bs : List UInt8) (x : CmdD) (w : World) (hx : x.wf) (hb : bs.length ≤ 1000000000) (hin : Own w S [Res.bv o xQ sl bs] w) : Rets Try.prog 39 #[.pointer (some ⟨o, 0, none⟩), .agg (CmdD.cells x).toArray] w fun u_ w' => ∃ (sl' : Value), u_ = .tuple #[] ∧ Own w S [Res.bv o xQ sl' (bs ++ x.enc)] w' := by
  have hk : x.key.data.toList.length = x.key.size := zDD x.key
  have hk2 := hx.key
  have hd := zDk x.key.data.toList (by omega)
  have hn1 := zAG (ns := [x.session, x.seq, u64 x.op]) (by have := hx.session; have := hx.seq; simp [zCe, *])
  simp only [List.length_cons, List.length_nil] at hn1
  refine zh Try.func39 rfl Try.ntmps39 hin ?_
  refine zB (yh rfl rfl (fun b3 => zA (zB (zC rfl (zW (o := 0) rfl rfl (zd 1 (v := Vn x.session) rfl rfl rfl rfl (zW (o := 1) rfl rfl (zd 1 (v := Vn x.seq) rfl rfl rfl rfl (zW (o := 2) rfl rfl (zd 1 (v := Vi x.op) rfl rfl rfl rfl (xU (by kernel_rfl) rfl (kQ _) rfl ?_ (by kernel_rfl))))))))))))
  refine yg (e := 28) (sz := 1) (vs := [Vn x.session, Vn x.seq, Vn (u64 x.op)]) (by kernel_rfl) rfl rfl (by simp [Value.cells]) (by decide) rfl (fun b12 => zQ rfl rfl (fun w' hw => (zD9 o _ _ (.slice (some ⟨b12, 0, none⟩) 3 3) [x.session, x.seq, u64 x.op] w' (by have := hx.session; have := hx.seq; simp [zCe, *]) (by first | omega | (simp <;> omega) | (constructor <;> (first | omega | (simp <;> omega)))) (hw.give [0] rfl (by decide)) (hw.rdVec 2 rfl [0] rfl rfl)).mono ?_))
  rintro _ w1 ⟨sl'1_, rfl, hO⟩
  refine (?_ : CL _ _ _ _ _ _ (Own w S [Res.row b3 30 (CmdD.cells x), Res.vec 28 1 (.slice (some ⟨b12, 0, none⟩) 3 3) [x.session, x.seq, u64 x.op].length ([x.session, x.seq, u64 x.op].flatMap U1), Res.bv o xQ sl'1_ (bs ++ yX [x.session, x.seq, u64 x.op])])) w1 (hw.frameL [0] rfl hO)
  refine zA (zB (zC rfl (zW (o := 3) rfl rfl (zd 0 (v := .string x.key) rfl rfl rfl rfl (zKV (by kernel_rfl) (by kernel_rfl) rfl (by rw [yK]; omega) rfl (fun v17 => ?_))))))
  refine zAs (fun w' hw => Sl.cell1 (Own.holds hw 3 _ rfl)) (fun hc1_ => ?_)
  refine zJD (e := 63) (vs := [v17]) (by kernel_rfl) rfl rfl (zFN hc1_ zGb) (by decide) rfl (fun b18 => zQ rfl rfl (fun w' hw => (zJS o sl'1_ (bs ++ yX [x.session, x.seq, u64 x.op]) (.slice (some ⟨b18, 0, none⟩) 1 1) [(v17, x.key.data.toList)] w' (by simp [yo]; omega) (by show 1 ≤ _; omega) (hw.give [2] rfl (by decide)) (hw.rdVec 4 rfl [2] rfl rfl) (all_cons (hw.rdRes 3 rfl [2] rfl rfl) (fun p hp => by cases hp))).mono ?_))
  rintro _ w1 ⟨sl'2_, rfl, hO⟩
  refine (?_ : CL _ _ _ _ _ _ (Own w S [Res.row b3 30 (CmdD.cells x), Res.vec 28 1 (.slice (some ⟨b12, 0, none⟩) 3 3) [x.session, x.seq, u64 x.op].length ([x.session, x.seq, u64 x.op].flatMap U1), Res.sl v17 x.key.data.toList.length (x.key.data.toList.map vb), Res.vec 63 1 (.slice (some ⟨b18, 0, none⟩) 1 1) [(v17, x.key.data.toList)].length ([(v17, x.key.data.toList)].flatMap pv), Res.bv o xQ sl'2_ ((bs ++ yX [x.session, x.seq, u64 x.op]) ++ yo [(v17, x.key.data.toList)])])) w1 (hw.frameL [2] rfl hO)
  refine zA (zg (zC rfl (zW (o := 4) rfl rfl (zd 0 (v := Vi x.amount) rfl rfl rfl rfl (xU (by kernel_rfl) rfl (kQ _) rfl ?_ (by kernel_rfl))))))
  refine zW (o := 5) rfl rfl (zd 0 (v := Vi x.span) rfl rfl rfl rfl (xU (by kernel_rfl) rfl (kQ _) rfl ?_ (by kernel_rfl)))
  refine zW (o := 6) rfl rfl (zd 0 (v := Vn x.lease) rfl rfl rfl rfl (yg (e := 28) (sz := 1) (vs := [Vn (u64 x.amount), Vn (u64 x.span), Vn x.lease]) (by kernel_rfl) rfl rfl (by simp [Value.cells]) (by decide) rfl (fun b29 => zQ rfl rfl (fun w' hw => (zD9 o sl'2_ ((bs ++ yX [x.session, x.seq, u64 x.op]) ++ yo [(v17, x.key.data.toList)]) (.slice (some ⟨b29, 0, none⟩) 3 3) [u64 x.amount, u64 x.span, x.lease] w' (by have := hx.lease; simp [zCe, *]) (by simp [yo]; omega) (hw.give [4] rfl (by decide)) (hw.rdVec 5 rfl [4] rfl rfl)).mono ?_))))
  rintro _ w1 ⟨sl'3_, rfl, hO⟩
  refine (?_ : CL _ _ _ _ _ _ (Own w S [Res.row b3 30 (CmdD.cells x), Res.vec 28 1 (.slice (some ⟨b12, 0, none⟩) 3 3) [x.session, x.seq, u64 x.op].length ([x.session, x.seq, u64 x.op].flatMap U1), Res.sl v17 x.key.data.toList.length (x.key.data.toList.map vb), Res.vec 63 1 (.slice (some ⟨b18, 0, none⟩) 1 1) [(v17, x.key.data.toList)].length ([(v17, x.key.data.toList)].flatMap pv), Res.vec 28 1 (.slice (some ⟨b29, 0, none⟩) 3 3) [u64 x.amount, u64 x.span, x.lease].length ([u64 x.amount, u64 x.span, x.lease].flatMap U1), Res.bv o xQ sl'3_ (((bs ++ yX [x.session, x.seq, u64 x.op]) ++ yo [(v17, x.key.data.toList)]) ++ yX [u64 x.amount, u64 x.span, x.lease])])) w1 (hw.frameL [4] rfl hO)
  exact zf (ji rfl (fun w' hw => ⟨sl'3_, rfl, by have h := hw.one 5 rfl; simpa [CmdD.enc, yo, zH9] using h⟩))
theorem zD0 (w : World) : Rets Try.prog 27 #[] w fun u_ w' => u_ = .agg #[.func (.func 38) #[] #[], .func (.func 39) #[] #[], .func (.func 42) #[] #[]] ∧ Own w [] [] w' := by
  refine zh Try.func27 rfl Try.ntmps27 (Own.start w) ?_
  refine zB (yP (v := .agg #[.nilFunc, .nilFunc, .nilFunc]) (by kernel_rfl) rfl (fun b0 => zA (zB (yS (cs := [.func (.func 38) #[] #[], .func (.func 39) #[] #[], .func (.func 42) #[] #[]]) (z := [.nilFunc, .nilFunc, .nilFunc]) (pl := [(0, 1), (1, 1), (2, 1)]) (by kernel_rfl) (by kernel_rfl) rfl (zu 0 rfl rfl rfl (yC rfl) rfl (zA ?_))))))
  exact zR (zCf (cs := [.func (.func 38) #[] #[], .func (.func 39) #[] #[], .func (.func 42) #[] #[]]) rfl rfl (by kernel_rfl) (Own.rowCells (i := 0) rfl) (fun w' hw => ⟨rfl, hw.drop⟩))
theorem zDq (x : CmdD) (w : World) (hx : x.wf) : Rets Try.prog 28 #[.agg #[.func (.func 38) #[] #[], .func (.func 39) #[] #[], .func (.func 42) #[] #[]], .agg (CmdD.cells x).toArray] w fun u_ w' => ∃ (r : Value), u_ = .tuple #[r, Vi (yR x.ok)] ∧ Own w [] [Res.vec 5 1 r (if x.ok then x.enc else []).length ((if x.ok then x.enc else []).map vb)] w' := by
  have hk := hx.key
  refine zh Try.func28 rfl Try.ntmps28 (Own.start w) ?_
  refine zB (yh rfl rfl (fun b2 => yh rfl rfl (fun b3 => zH rfl (zH rfl (zA (zM (zB (zW (o := 0) rfl rfl (zd 0 (v := .func (.func 38) #[] #[]) rfl rfl rfl rfl (yk (cs := (CmdD.cells x)) 1 rfl rfl rfl (xz (fst := []) (cap := []) rfl (by kernel_rfl) rfl rfl (fun w' hw => (zDf x w' (by first | omega | (simp <;> omega))).mono ?_))))))))))))
  rintro _ w1 ⟨rfl, hO⟩
  refine (?_ : CL _ _ _ _ _ _ (Own w [] [Res.row b2 85 [.func (.func 38) #[] #[], .func (.func 39) #[] #[], .func (.func 42) #[] #[]], Res.row b3 30 (CmdD.cells x)])) w1 (hw.frame0 hO)
  refine k6 (q := x.ok) rfl rfl (zA (zU rfl (fun c1 => ?_) (fun c1 => ?_)))
  ·
   refine zB (zH rfl (zH rfl (zA ?_)))
   exact zR (ya (v := .slice none 0 0) (v' := Vi 2) rfl rfl rfl (fun w' hw => ⟨.slice none 0 0, (by rw [zEg c1]), by rw [if_neg c1]; exact (yd hw T8 1).one 2 rfl⟩))
  ·
   refine zL (zB (yS (cs := [.slice none 0 0]) (z := [.slice none 0 0]) (pl := [(0, 1)]) (by kernel_rfl) (by kernel_rfl) rfl (yh rfl rfl (fun b13 => zH rfl (zA (zB (zW (o := 1) rfl rfl (zd 0 (v := .func (.func 39) #[] #[]) rfl rfl rfl rfl (zC rfl (yk (cs := (CmdD.cells x)) 1 rfl rfl rfl ?_))))))))))
   refine zBo [Res.row b2 85 [.func (.func 38) #[] #[], .func (.func 39) #[] #[], .func (.func 42) #[] #[]], Res.row b3 30 (CmdD.cells x), Res.bv b13 xQ (.slice none 0 0) ([] : List UInt8)] (fun w' hw => (yd hw T8 1).joinBv (i := 2) (j := 3) (by decide) rfl rfl) ?_
   refine xz (fst := []) (cap := []) rfl (by kernel_rfl) rfl rfl (fun w' hw => (zDz b13 (.slice none 0 0) ([] : List UInt8) x w' ‹_› (by first | omega | (simp <;> omega) | (constructor <;> (first | omega | (simp <;> omega)))) (hw.give [2] rfl (by decide))).mono ?_)
   rintro _ w1 ⟨sl'1_, rfl, hO⟩
   refine (?_ : CL _ _ _ _ _ _ (Own w [] [Res.row b2 85 [.func (.func 38) #[] #[], .func (.func 39) #[] #[], .func (.func 42) #[] #[]], Res.row b3 30 (CmdD.cells x), Res.bv b13 xQ sl'1_ (([] : List UInt8) ++ x.enc)])) w1 (hw.frameL [2] rfl hO)
   refine zA (zB (zC rfl (yB rfl rfl (zW (o := 0) rfl rfl ?_))))
   refine zBo [Res.row b2 85 [.func (.func 38) #[] #[], .func (.func 39) #[] #[], .func (.func 42) #[] #[]], Res.row b3 30 (CmdD.cells x), Res.row b13 xQ [sl'1_], Res.vec 5 1 sl'1_ (([] : List UInt8) ++ x.enc).length ((([] : List UInt8) ++ x.enc).map vb)] (fun w' hw => hw.splitBv (i := 2) (o := b13) (T := xQ) (v := sl'1_) (bs := (([] : List UInt8) ++ x.enc)) rfl) ?_
   refine zd 2 (v := sl'1_) rfl rfl rfl rfl (zH rfl (zH rfl (zA ?_)))
   exact zR (ya (v := sl'1_) (v' := Vi 0) rfl rfl rfl (fun w' hw => ⟨sl'1_, (by rw [zEr (Decidable.not_not.1 c1)]), by rw [if_pos (Decidable.not_not.1 c1)]; exact hw.one 3 rfl⟩))
theorem zAB (x : CmdD) (w : World) (hx : x.wf) : Rets Try.prog 18 #[.agg (CmdD.cells x).toArray] w fun u_ w' => ∃ (r : Value), u_ = .tuple #[r, Vi (yR x.ok)] ∧ Own w [] [Res.vec 5 1 r (if x.ok then x.enc else []).length ((if x.ok then x.enc else []).map vb)] w' := by
  refine zh Try.func18 rfl Try.ntmps18 (Own.start w) ?_
  refine zB (yh rfl rfl (fun b1 => zH rfl (zH rfl (zA (zM (zX [0] rfl (by decide) (by kernel_rfl) (fun w' hw hS => zE 1 rfl (zAz (cs := (CmdD.cells x)) 0 rfl rfl) hS (zZ 0 rfl hw (zQ rfl rfl (fun w' hw => (zD0 w').mono ?_))))))))))
  rintro _ w1 ⟨rfl, hO⟩
  refine (?_ : CL _ _ _ _ _ _ (Own w [] [Res.row b1 30 (CmdD.cells x)])) w1 (hw.frame0 hO)
  refine zF [0] rfl (by decide) (fun w' hw hS => zZ 2 rfl hw (zQ rfl rfl (fun w' hw => (zDq x w' ‹_›).mono ?_)))
  rintro _ w1 ⟨r1_, rfl, hO⟩
  refine (?_ : CL _ _ _ _ _ _ (Own w [] [Res.row b1 30 (CmdD.cells x), Res.vec 5 1 r1_ (if x.ok then x.enc else []).length ((if x.ok then x.enc else []).map vb)])) w1 (hw.frame0 hO)
  refine zF [0] rfl (by decide) (fun w' hw hS => zE 3 rfl (yp (vs := [r1_, Vi (yR x.ok)]) rfl rfl) hS (zE 4 rfl (yp (vs := [r1_, Vi (yR x.ok)]) rfl rfl) hS (zE 5 rfl (xW) hS (zE 6 rfl (xW) hS (zK ?_)))))
  refine (?_ : C _ _ _ _ _ _ _ (Own w [] [Res.row b1 30 (CmdD.cells x), Res.vec 5 1 r1_ (if x.ok then x.enc else []).length ((if x.ok then x.enc else []).map vb)])) _ hw
  exact zR (ya (v := r1_) (v' := Vi (yR x.ok)) rfl rfl rfl (fun w' hw => ⟨r1_, rfl, hw.sel [1] rfl (by decide)⟩))
theorem zDy (x : RepD) (w : World) : Rets Try.prog 89 #[.agg (RepD.cells x).toArray] w fun u_ w' => u_ = .bool (decide x.ok) ∧ Own w [] [] w' := by
  refine zh Try.func89 rfl Try.ntmps89 (Own.start w) ?_
  refine zB (yh rfl rfl (fun b1 => zH rfl (zA (zB (zW (o := 2) rfl rfl (zd 0 (v := Vi x.e) rfl rfl rfl rfl (yY rfl rfl rfl (zC rfl (yZ (q := 0 ≤ x.e) 3 3 [9, 8, 7] (x.e ≤ 20) rfl rfl rfl rfl rfl rfl trivial rfl (fun h1_3 => ?_) (fun g1_7 => ?_))))))))))
  ·
   refine zV rfl (gT h1_3) (zW (o := 2) rfl rfl (zV rfl (gT h1_3) (zd 0 (v := Vi x.e) rfl rfl rfl rfl (zV rfl (gT h1_3) (zAj rfl rfl rfl ?_)))))
   exact yi rfl (fun _ hw => hw)
  refine zH rfl (zA ?_)
  exact zR (z3 (v := .bool (decide ((0 ≤ x.e) ∧ (x.e ≤ 20)))) rfl rfl (fun w' hw => ⟨rfl, hw.drop⟩))
theorem zDu {S : List Nat} (o : Nat) (sl : Value) (bs : List UInt8) (x : RepD) (w : World) (hx : x.wf) (hb : bs.length ≤ 1000000000) (hin : Own w S [Res.bv o xQ sl bs] w) : Rets Try.prog 90 #[.pointer (some ⟨o, 0, none⟩), .agg (RepD.cells x).toArray] w fun u_ w' => ∃ (sl' : Value), u_ = .tuple #[] ∧ Own w S [Res.bv o xQ sl' (bs ++ x.enc)] w' := by
  refine zh Try.func90 rfl Try.ntmps90 hin ?_
  refine zB (yh rfl rfl (fun b3 => zA (zg (zC rfl (zW (o := 0) rfl rfl (zd 1 (v := Vn x.session) rfl rfl rfl rfl (zW (o := 1) rfl rfl (zd 1 (v := Vn x.seq) rfl rfl rfl rfl (zW (o := 2) rfl rfl (zd 1 (v := Vi x.e) rfl rfl rfl rfl (xU (by kernel_rfl) rfl (kQ _) rfl ?_ (by kernel_rfl))))))))))))
  refine zW (o := 3) rfl rfl (zd 1 (v := Vn x.lease) rfl rfl rfl rfl (zW (o := 4) rfl rfl (zd 1 (v := Vi x.amount) rfl rfl rfl rfl (xU (by kernel_rfl) rfl (kQ _) rfl ?_ (by kernel_rfl)))))
  refine zW (o := 5) rfl rfl (zd 1 (v := Vi x.until_) rfl rfl rfl rfl (xU (by kernel_rfl) rfl (kQ _) rfl ?_ (by kernel_rfl)))
  refine yg (e := 28) (sz := 1) (vs := [Vn x.session, Vn x.seq, Vn (u64 x.e), Vn x.lease, Vn (u64 x.amount), Vn (u64 x.until_)]) (by kernel_rfl) rfl rfl (by simp [Value.cells]) (by decide) rfl (fun b20 => zQ rfl rfl (fun w' hw => (zD9 o _ _ (.slice (some ⟨b20, 0, none⟩) 6 6) [x.session, x.seq, u64 x.e, x.lease, u64 x.amount, u64 x.until_] w' (by have := hx.session; have := hx.seq; have := hx.lease; simp [zCe, *]) (by first | omega | (simp <;> omega) | (constructor <;> (first | omega | (simp <;> omega)))) (hw.give [0] rfl (by decide)) (hw.rdVec 2 rfl [0] rfl rfl)).mono ?_))
  rintro _ w1 ⟨sl'1_, rfl, hO⟩
  refine (?_ : CL _ _ _ _ _ _ (Own w S [Res.row b3 32 (RepD.cells x), Res.vec 28 1 (.slice (some ⟨b20, 0, none⟩) 6 6) [x.session, x.seq, u64 x.e, x.lease, u64 x.amount, u64 x.until_].length ([x.session, x.seq, u64 x.e, x.lease, u64 x.amount, u64 x.until_].flatMap U1), Res.bv o xQ sl'1_ (bs ++ yX [x.session, x.seq, u64 x.e, x.lease, u64 x.amount, u64 x.until_])])) w1 (hw.frameL [0] rfl hO)
  exact zf (ji rfl (fun w' hw => ⟨sl'1_, rfl, hw.sel [2] rfl (by decide)⟩))
theorem zFK (w : World) : Rets Try.prog 81 #[] w fun u_ w' => u_ = .agg #[.func (.func 89) #[] #[], .func (.func 90) #[] #[], .func (.func 91) #[] #[]] ∧ Own w [] [] w' := by
  refine zh Try.func81 rfl Try.ntmps81 (Own.start w) ?_
  refine zB (yP (v := .agg #[.nilFunc, .nilFunc, .nilFunc]) (by kernel_rfl) rfl (fun b0 => zA (zB (yS (cs := [.func (.func 89) #[] #[], .func (.func 90) #[] #[], .func (.func 91) #[] #[]]) (z := [.nilFunc, .nilFunc, .nilFunc]) (pl := [(0, 1), (1, 1), (2, 1)]) (by kernel_rfl) (by kernel_rfl) rfl (zu 0 rfl rfl rfl (yC rfl) rfl (zA ?_))))))
  exact zR (zCf (cs := [.func (.func 89) #[] #[], .func (.func 90) #[] #[], .func (.func 91) #[] #[]]) rfl rfl (by kernel_rfl) (Own.rowCells (i := 0) rfl) (fun w' hw => ⟨rfl, hw.drop⟩))
theorem zDp (x : RepD) (w : World) (hx : x.wf) : Rets Try.prog 82 #[.agg #[.func (.func 89) #[] #[], .func (.func 90) #[] #[], .func (.func 91) #[] #[]], .agg (RepD.cells x).toArray] w fun u_ w' => ∃ (r : Value), u_ = .tuple #[r, Vi (yR x.ok)] ∧ Own w [] [Res.vec 5 1 r (if x.ok then x.enc else []).length ((if x.ok then x.enc else []).map vb)] w' := by
  refine zh Try.func82 rfl Try.ntmps82 (Own.start w) ?_
  refine zB (yh rfl rfl (fun b2 => yh rfl rfl (fun b3 => zH rfl (zH rfl (zA (zM (zB (zW (o := 0) rfl rfl (zd 0 (v := .func (.func 89) #[] #[]) rfl rfl rfl rfl (yk (cs := (RepD.cells x)) 1 rfl rfl rfl (xz (fst := []) (cap := []) rfl (by kernel_rfl) rfl rfl (fun w' hw => (zDy x w').mono ?_))))))))))))
  rintro _ w1 ⟨rfl, hO⟩
  refine (?_ : CL _ _ _ _ _ _ (Own w [] [Res.row b2 154 [.func (.func 89) #[] #[], .func (.func 90) #[] #[], .func (.func 91) #[] #[]], Res.row b3 32 (RepD.cells x)])) w1 (hw.frame0 hO)
  refine k6 (q := x.ok) rfl rfl (zA (zU rfl (fun c1 => ?_) (fun c1 => ?_)))
  ·
   refine zB (zH rfl (zH rfl (zA ?_)))
   exact zR (ya (v := .slice none 0 0) (v' := Vi 2) rfl rfl rfl (fun w' hw => ⟨.slice none 0 0, (by rw [zEg c1]), by rw [if_neg c1]; exact (yd hw T8 1).one 2 rfl⟩))
  ·
   refine zL (zB (yS (cs := [.slice none 0 0]) (z := [.slice none 0 0]) (pl := [(0, 1)]) (by kernel_rfl) (by kernel_rfl) rfl (yh rfl rfl (fun b13 => zH rfl (zA (zB (zW (o := 1) rfl rfl (zd 0 (v := .func (.func 90) #[] #[]) rfl rfl rfl rfl (zC rfl (yk (cs := (RepD.cells x)) 1 rfl rfl rfl ?_))))))))))
   refine zBo [Res.row b2 154 [.func (.func 89) #[] #[], .func (.func 90) #[] #[], .func (.func 91) #[] #[]], Res.row b3 32 (RepD.cells x), Res.bv b13 xQ (.slice none 0 0) ([] : List UInt8)] (fun w' hw => (yd hw T8 1).joinBv (i := 2) (j := 3) (by decide) rfl rfl) ?_
   refine xz (fst := []) (cap := []) rfl (by kernel_rfl) rfl rfl (fun w' hw => (zDu b13 (.slice none 0 0) ([] : List UInt8) x w' ‹_› (by first | omega | (simp <;> omega) | (constructor <;> (first | omega | (simp <;> omega)))) (hw.give [2] rfl (by decide))).mono ?_)
   rintro _ w1 ⟨sl'1_, rfl, hO⟩
   refine (?_ : CL _ _ _ _ _ _ (Own w [] [Res.row b2 154 [.func (.func 89) #[] #[], .func (.func 90) #[] #[], .func (.func 91) #[] #[]], Res.row b3 32 (RepD.cells x), Res.bv b13 xQ sl'1_ (([] : List UInt8) ++ x.enc)])) w1 (hw.frameL [2] rfl hO)
   refine zA (zB (zC rfl (yB rfl rfl (zW (o := 0) rfl rfl ?_))))
   refine zBo [Res.row b2 154 [.func (.func 89) #[] #[], .func (.func 90) #[] #[], .func (.func 91) #[] #[]], Res.row b3 32 (RepD.cells x), Res.row b13 xQ [sl'1_], Res.vec 5 1 sl'1_ (([] : List UInt8) ++ x.enc).length ((([] : List UInt8) ++ x.enc).map vb)] (fun w' hw => hw.splitBv (i := 2) (o := b13) (T := xQ) (v := sl'1_) (bs := (([] : List UInt8) ++ x.enc)) rfl) ?_
   refine zd 2 (v := sl'1_) rfl rfl rfl rfl (zH rfl (zH rfl (zA ?_)))
   exact zR (ya (v := sl'1_) (v' := Vi 0) rfl rfl rfl (fun w' hw => ⟨sl'1_, (by rw [zEr (Decidable.not_not.1 c1)]), by rw [if_pos (Decidable.not_not.1 c1)]; exact hw.one 3 rfl⟩))
theorem zEH (x : RepD) (w : World) (hx : x.wf) : Rets Try.prog 63 #[.agg (RepD.cells x).toArray] w fun u_ w' => ∃ (r : Value), u_ = .tuple #[r, Vi (yR x.ok)] ∧ Own w [] [Res.vec 5 1 r (if x.ok then x.enc else []).length ((if x.ok then x.enc else []).map vb)] w' := by
  refine zh Try.func63 rfl Try.ntmps63 (Own.start w) ?_
  refine zB (yh rfl rfl (fun b1 => zH rfl (zH rfl (zA (zM (zX [0] rfl (by decide) (by kernel_rfl) (fun w' hw hS => zE 1 rfl (zAz (cs := (RepD.cells x)) 0 rfl rfl) hS (zZ 0 rfl hw (zQ rfl rfl (fun w' hw => (zFK w').mono ?_))))))))))
  rintro _ w1 ⟨rfl, hO⟩
  refine (?_ : CL _ _ _ _ _ _ (Own w [] [Res.row b1 32 (RepD.cells x)])) w1 (hw.frame0 hO)
  refine zF [0] rfl (by decide) (fun w' hw hS => zZ 2 rfl hw (zQ rfl rfl (fun w' hw => (zDp x w' ‹_›).mono ?_)))
  rintro _ w1 ⟨r1_, rfl, hO⟩
  refine (?_ : CL _ _ _ _ _ _ (Own w [] [Res.row b1 32 (RepD.cells x), Res.vec 5 1 r1_ (if x.ok then x.enc else []).length ((if x.ok then x.enc else []).map vb)])) w1 (hw.frame0 hO)
  refine zF [0] rfl (by decide) (fun w' hw hS => zE 3 rfl (yp (vs := [r1_, Vi (yR x.ok)]) rfl rfl) hS (zE 4 rfl (yp (vs := [r1_, Vi (yR x.ok)]) rfl rfl) hS (zE 5 rfl (xW) hS (zE 6 rfl (xW) hS (zK ?_)))))
  refine (?_ : C _ _ _ _ _ _ _ (Own w [] [Res.row b1 32 (RepD.cells x), Res.vec 5 1 r1_ (if x.ok then x.enc else []).length ((if x.ok then x.enc else []).map vb)])) _ hw
  exact zR (ya (v := r1_) (v' := Vi (yR x.ok)) rfl rfl rfl (fun w' hw => ⟨r1_, rfl, hw.sel [1] rfl (by decide)⟩))
theorem zJX (r s : CmdD) : eqL [(0, some (some .u64)), (1, some (some .u64)), (2, some (some .i64)), (3, some none), (4, some (some .i64)), (5, some (some .i64)), (6, some (some .u64))] r.cells s.cells = decide (r = s) := by
  obtain ⟨a, b, c, d, e, f, g⟩ := r
  obtain ⟨a', b', c', d', e', f', g'⟩ := s
  simp [eqL, CmdD.cells, eqC, CmdD.mk.injEq, Bool.decide_and]
  have h : ∀ m n : Nat, decide ((m : Int) = n) = decide (m = n) := fun m n => decide_eq_decide.2 (by omega)
  simp only [h]
def zKD (l : List UInt8) : ByteArray := ⟨l.toArray⟩
def zKp : List UInt8 → Nat → Option (CmdD × Nat) := y0 zAo fun s => y0 zAo fun q => y0 (zH3 5) fun o => y0 zIj fun k => y0 zAo fun a => y0 zAo fun p => y0 zAo fun l => jy ⟨s, q, o, zKD k, toI a, toI p, l⟩
def zKy : List UInt8 → Nat → Option (RepD × Nat) := y0 zAo fun s => y0 zAo fun q => y0 (zH3 20) fun e => y0 zAo fun l => y0 zAo fun a => y0 zAo fun u => jy ⟨s, q, e, l, toI a, toI u⟩
def zJJ : CmdD := ⟨0, 0, 0, ⟨#[]⟩, 0, 0, 0⟩
def zKh : RepD := ⟨0, 0, 0, 0, 0, 0⟩
instance : DecidablePred CmdD.ok := fun x => inferInstance
instance : DecidablePred RepD.ok := fun x => inferInstance
def decCmd (b : List UInt8) : Option CmdD := zBW zKp CmdD.ok b
def decRpl (b : List UInt8) : Option RepD := zBW zKy RepD.ok b
end Go.Proofs.Ytcdiehplbmkmeaa
