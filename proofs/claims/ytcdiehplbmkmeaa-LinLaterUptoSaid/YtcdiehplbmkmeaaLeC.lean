import Derived.Test.YtcdiehplbmkmeaaFwN
set_option linter.unusedSectionVars false
set_option linter.unusedSimpArgs false
set_option linter.unusedVariables false
set_option maxRecDepth 10000
namespace Go.Proofs.Ytcdiehplbmkmeaa
open Go Go.Sc Go.Proofs
def toI (n : Nat) : Int := if n ≤ 9223372036854775807 then n else (n : Int) - 18446744073709551616
theorem RdS.int {most : Nat} {b : List UInt8} {a a1 n : Nat} {bad bad1 : Bool} (h : RdS (zFG most) b a bad n a1 bad1) : RdS (zGp most) b a bad (n : Int) a1 bad1 := RdS.map (fun n : Nat => (n : Int)) h
structure CmdD where
  session : Nat
  seq : Nat
  op : Int
  key : ByteArray
  amount : Int
  span : Int
  lease : Nat
  deriving DecidableEq
structure CmdD.wf (x : CmdD) : Prop where
  session : x.session < 18446744073709551616
  seq : x.seq < 18446744073709551616
  key : x.key.size ≤ 1048576
  amount : yd x.amount
  span : yd x.span
  lease : x.lease < 18446744073709551616
def CmdD.cells (x : CmdD) : List Value := [.int .u64 x.session, .int .u64 x.seq, .int .i64 x.op, .string x.key, .int .i64 x.amount, .int .i64 x.span, .int .u64 x.lease]
def CmdD.ok (x : CmdD) : Prop := (1 ≤ x.op ∧ x.op ≤ 5) ∧ x.key.size ≤ 64
instance (x : CmdD) : Decidable x.ok := inferInstanceAs (Decidable ((_ ∧ _) ∧ _))
def zGo (s : ByteArray) : List UInt8 := s.data.toList
theorem zCr (s : ByteArray) : (zGo s).length = s.size := by unfold zGo; rw [Array.length_toList]; rfl
def CmdD.enc (x : CmdD) : List UInt8 := yS [x.session, x.seq, u64 x.op] ++ dat (zGo x.key) ++ yS [u64 x.amount, u64 x.span, x.lease]
structure RepD where
  session : Nat
  seq : Nat
  e : Int
  lease : Nat
  amount : Int
  until_ : Int
  deriving DecidableEq
structure RepD.wf (r : RepD) : Prop where
  session : r.session < 18446744073709551616
  seq : r.seq < 18446744073709551616
  lease : r.lease < 18446744073709551616
  amount : yd r.amount
  until_ : yd r.until_
def RepD.cells (r : RepD) : List Value := [.int .u64 r.session, .int .u64 r.seq, .int .i64 r.e, .int .u64 r.lease, .int .i64 r.amount, .int .i64 r.until_]
def RepD.ok (r : RepD) : Prop := 0 ≤ r.e ∧ r.e ≤ 20
instance (r : RepD) : Decidable r.ok := inferInstanceAs (Decidable (_ ∧ _))
def RepD.enc (r : RepD) : List UInt8 := yS [r.session, r.seq, u64 r.e, r.lease, u64 r.amount, u64 r.until_]
theorem zDI (x : CmdD) (w : World) (hx : x.key.size ≤ 1048576) : Rets Try.prog 38 #[.agg (CmdD.cells x).toArray] w fun u_ w' => u_ = .bool (decide x.ok) ∧ Own w [] [] w' := by
  refine zg Try.func38 rfl Try.ntmps38 (Own.start w) ?_
  refine zB (ya rfl rfl (fun b1 => zH rfl (zA (zB (zc (o := 2) rfl rfl (ze 0 (v := Vi x.op) rfl rfl rfl rfl (yY rfl rfl rfl (zC rfl (yW (q := 1 ≤ x.op) 3 3 [9, 8, 7] (x.op ≤ 5) rfl rfl rfl rfl rfl rfl trivial rfl (fun h1_3 => ?_) (fun g1_7 => ?_))))))))))
  ·
   refine zV rfl (gT h1_3) (zc (o := 2) rfl rfl (zV rfl (gT h1_3) (ze 0 (v := Vi x.op) rfl rfl rfl rfl (zV rfl (gT h1_3) (zAQ rfl rfl rfl ?_)))))
   exact yg rfl (fun _ hw => hw)
  refine zC rfl (yW (q := (1 ≤ x.op) ∧ (x.op ≤ 5)) 4 8 [15, 14, 13, 12] (((x.key.size : Nat) : Int) ≤ 64) rfl rfl rfl rfl rfl rfl trivial rfl (fun h1_8 => ?_) (fun g1_13 => ?_))
  ·
   refine zV rfl (gT h1_8) (zc (o := 3) rfl rfl (zV rfl (gT h1_8) (ze 0 (v := .string x.key) rfl rfl rfl rfl (zV rfl (gT h1_8) (zFQ (by kernel_rfl) rfl rfl (zV rfl (gT h1_8) (zAQ rfl rfl rfl ?_)))))))
   exact yg rfl (fun _ hw => hw)
  refine zH rfl (zA ?_)
  exact zR (z6 (v := .bool (decide (((1 ≤ x.op) ∧ (x.op ≤ 5)) ∧ (((x.key.size : Nat) : Int) ≤ 64)))) rfl rfl (fun w' hw => ⟨(by congr 1; exact decide_eq_decide.2 (by unfold CmdD.ok; omega)), hw.drop⟩))
theorem zDJ {S : List Nat} (o : Nat) (sl : Value) (bs : List UInt8) (x : CmdD) (w : World) (hx : x.wf) (hb : bs.length ≤ 1000000000) (hin : Own w S [Res.bv o xK sl bs] w) : Rets Try.prog 39 #[.pointer (some ⟨o, 0, none⟩), .agg (CmdD.cells x).toArray] w fun u_ w' => ∃ (sl' : Value), u_ = .tuple #[] ∧ Own w S [Res.bv o xK sl' (bs ++ x.enc)] w' := by
  have hk : x.key.data.toList.length = x.key.size := zCr x.key
  have hk2 := hx.key
  have hd := zDh x.key.data.toList (by omega)
  have hn1 := jn (ns := [x.session, x.seq, u64 x.op]) (by have := hx.session; have := hx.seq; simp [zB0, *])
  simp only [List.length_cons, List.length_nil] at hn1
  refine zg Try.func39 rfl Try.ntmps39 hin ?_
  refine zB (ya rfl rfl (fun b3 => zA (zB (zC rfl (zc (o := 0) rfl rfl (ze 1 (v := Vn x.session) rfl rfl rfl rfl (zc (o := 1) rfl rfl (ze 1 (v := Vn x.seq) rfl rfl rfl rfl (zc (o := 2) rfl rfl (ze 1 (v := Vi x.op) rfl rfl rfl rfl (xZ (by kernel_rfl) rfl (kO _) rfl ?_ (by kernel_rfl))))))))))))
  refine yz (e := 28) (sz := 1) (vs := [Vn x.session, Vn x.seq, Vn (u64 x.op)]) (by kernel_rfl) rfl rfl (by simp [Value.cells]) (by decide) rfl (fun b12 => zQ rfl rfl (fun w' hw => (zDq o _ _ (.slice (some ⟨b12, 0, none⟩) 3 3) [x.session, x.seq, u64 x.op] w' (by have := hx.session; have := hx.seq; simp [zB0, *]) (by first | omega | (simp <;> omega) | (constructor <;> (first | omega | (simp <;> omega)))) (hw.give [0] rfl (by decide)) (hw.rdVec 2 rfl [0] rfl rfl)).mono ?_))
  rintro _ w1 ⟨sl'1_, rfl, hO⟩
  refine (?_ : CL _ _ _ _ _ _ (Own w S [Res.row b3 30 (CmdD.cells x), Res.vec 28 1 (.slice (some ⟨b12, 0, none⟩) 3 3) [x.session, x.seq, u64 x.op].length ([x.session, x.seq, u64 x.op].flatMap U1), Res.bv o xK sl'1_ (bs ++ yS [x.session, x.seq, u64 x.op])])) w1 (hw.frameL [0] rfl hO)
  refine zA (zB (zC rfl (zc (o := 3) rfl rfl (ze 0 (v := .string x.key) rfl rfl rfl rfl (zJL (by kernel_rfl) (by kernel_rfl) rfl (by rw [yJ]; omega) rfl (fun v17 => ?_))))))
  refine zAh (fun w' hw => Sl.cell1 (Own.holds hw 3 _ rfl)) (fun hc1_ => ?_)
  refine zIn (e := 63) (vs := [v17]) (by kernel_rfl) rfl rfl (zEi hc1_ zFZ) (by decide) rfl (fun b18 => zQ rfl rfl (fun w' hw => (zIa o sl'1_ (bs ++ yS [x.session, x.seq, u64 x.op]) (.slice (some ⟨b18, 0, none⟩) 1 1) [(v17, x.key.data.toList)] w' (by simp [yi]; omega) (by show 1 ≤ _; omega) (hw.give [2] rfl (by decide)) (hw.rdVec 4 rfl [2] rfl rfl) (all_cons (hw.rdRes 3 rfl [2] rfl rfl) (fun p hp => by cases hp))).mono ?_))
  rintro _ w1 ⟨sl'2_, rfl, hO⟩
  refine (?_ : CL _ _ _ _ _ _ (Own w S [Res.row b3 30 (CmdD.cells x), Res.vec 28 1 (.slice (some ⟨b12, 0, none⟩) 3 3) [x.session, x.seq, u64 x.op].length ([x.session, x.seq, u64 x.op].flatMap U1), Res.sl v17 x.key.data.toList.length (x.key.data.toList.map vb), Res.vec 63 1 (.slice (some ⟨b18, 0, none⟩) 1 1) [(v17, x.key.data.toList)].length ([(v17, x.key.data.toList)].flatMap pv), Res.bv o xK sl'2_ ((bs ++ yS [x.session, x.seq, u64 x.op]) ++ yi [(v17, x.key.data.toList)])])) w1 (hw.frameL [2] rfl hO)
  refine zA (zj (zC rfl (zc (o := 4) rfl rfl (ze 0 (v := Vi x.amount) rfl rfl rfl rfl (xZ (by kernel_rfl) rfl (kO _) rfl ?_ (by kernel_rfl))))))
  refine zc (o := 5) rfl rfl (ze 0 (v := Vi x.span) rfl rfl rfl rfl (xZ (by kernel_rfl) rfl (kO _) rfl ?_ (by kernel_rfl)))
  refine zc (o := 6) rfl rfl (ze 0 (v := Vn x.lease) rfl rfl rfl rfl (yz (e := 28) (sz := 1) (vs := [Vn (u64 x.amount), Vn (u64 x.span), Vn x.lease]) (by kernel_rfl) rfl rfl (by simp [Value.cells]) (by decide) rfl (fun b29 => zQ rfl rfl (fun w' hw => (zDq o sl'2_ ((bs ++ yS [x.session, x.seq, u64 x.op]) ++ yi [(v17, x.key.data.toList)]) (.slice (some ⟨b29, 0, none⟩) 3 3) [u64 x.amount, u64 x.span, x.lease] w' (by have := hx.lease; simp [zB0, *]) (by simp [yi]; omega) (hw.give [4] rfl (by decide)) (hw.rdVec 5 rfl [4] rfl rfl)).mono ?_))))
  rintro _ w1 ⟨sl'3_, rfl, hO⟩
  refine (?_ : CL _ _ _ _ _ _ (Own w S [Res.row b3 30 (CmdD.cells x), Res.vec 28 1 (.slice (some ⟨b12, 0, none⟩) 3 3) [x.session, x.seq, u64 x.op].length ([x.session, x.seq, u64 x.op].flatMap U1), Res.sl v17 x.key.data.toList.length (x.key.data.toList.map vb), Res.vec 63 1 (.slice (some ⟨b18, 0, none⟩) 1 1) [(v17, x.key.data.toList)].length ([(v17, x.key.data.toList)].flatMap pv), Res.vec 28 1 (.slice (some ⟨b29, 0, none⟩) 3 3) [u64 x.amount, u64 x.span, x.lease].length ([u64 x.amount, u64 x.span, x.lease].flatMap U1), Res.bv o xK sl'3_ (((bs ++ yS [x.session, x.seq, u64 x.op]) ++ yi [(v17, x.key.data.toList)]) ++ yS [u64 x.amount, u64 x.span, x.lease])])) w1 (hw.frameL [4] rfl hO)
  exact zf (ja rfl (fun w' hw => ⟨sl'3_, rfl, by have h := hw.one 5 rfl; simpa [CmdD.enc, yi, zGo] using h⟩))
theorem zDV (w : World) : Rets Try.prog 27 #[] w fun u_ w' => u_ = .agg #[.func (.func 38) #[] #[], .func (.func 39) #[] #[], .func (.func 42) #[] #[]] ∧ Own w [] [] w' := by
  refine zg Try.func27 rfl Try.ntmps27 (Own.start w) ?_
  refine zB (yR (v := .agg #[.nilFunc, .nilFunc, .nilFunc]) (by kernel_rfl) rfl (fun b0 => zA (zB (yN (cs := [.func (.func 38) #[] #[], .func (.func 39) #[] #[], .func (.func 42) #[] #[]]) (z := [.nilFunc, .nilFunc, .nilFunc]) (pl := [(0, 1), (1, 1), (2, 1)]) (by kernel_rfl) (by kernel_rfl) rfl (zt 0 rfl rfl rfl (yC rfl) rfl (zA ?_))))))
  exact zR (zCM (cs := [.func (.func 38) #[] #[], .func (.func 39) #[] #[], .func (.func 42) #[] #[]]) rfl rfl (by kernel_rfl) (Own.rowCells (i := 0) rfl) (fun w' hw => ⟨rfl, hw.drop⟩))
theorem zDW (x : CmdD) (w : World) (hx : x.wf) : Rets Try.prog 28 #[.agg #[.func (.func 38) #[] #[], .func (.func 39) #[] #[], .func (.func 42) #[] #[]], .agg (CmdD.cells x).toArray] w fun u_ w' => ∃ (r : Value), u_ = .tuple #[r, Vi (yO x.ok)] ∧ Own w [] [Res.vec 5 1 r (if x.ok then x.enc else []).length ((if x.ok then x.enc else []).map vb)] w' := by
  have hk := hx.key
  refine zg Try.func28 rfl Try.ntmps28 (Own.start w) ?_
  refine zB (ya rfl rfl (fun b2 => ya rfl rfl (fun b3 => zH rfl (zH rfl (zA (zO (zB (zc (o := 0) rfl rfl (ze 0 (v := .func (.func 38) #[] #[]) rfl rfl rfl rfl (yr (cs := (CmdD.cells x)) 1 rfl rfl rfl (xm (fst := []) (cap := []) rfl (by kernel_rfl) rfl rfl (fun w' hw => (zDI x w' (by first | omega | (simp <;> omega))).mono ?_))))))))))))
  rintro _ w1 ⟨rfl, hO⟩
  refine (?_ : CL _ _ _ _ _ _ (Own w [] [Res.row b2 85 [.func (.func 38) #[] #[], .func (.func 39) #[] #[], .func (.func 42) #[] #[]], Res.row b3 30 (CmdD.cells x)])) w1 (hw.frame0 hO)
  refine ku (q := x.ok) rfl rfl (zA (zU rfl (fun c1 => ?_) (fun c1 => ?_)))
  ·
   refine zB (zH rfl (zH rfl (zA ?_)))
   exact zR (yV (v := .slice none 0 0) (v' := Vi 2) rfl rfl rfl (fun w' hw => ⟨.slice none 0 0, (by rw [zEF c1]), by rw [if_neg c1]; exact (yk hw T8 1).one 2 rfl⟩))
  ·
   refine zM (zB (yN (cs := [.slice none 0 0]) (z := [.slice none 0 0]) (pl := [(0, 1)]) (by kernel_rfl) (by kernel_rfl) rfl (ya rfl rfl (fun b13 => zH rfl (zA (zB (zc (o := 1) rfl rfl (ze 0 (v := .func (.func 39) #[] #[]) rfl rfl rfl rfl (zC rfl (yr (cs := (CmdD.cells x)) 1 rfl rfl rfl ?_))))))))))
   refine zBg [Res.row b2 85 [.func (.func 38) #[] #[], .func (.func 39) #[] #[], .func (.func 42) #[] #[]], Res.row b3 30 (CmdD.cells x), Res.bv b13 xK (.slice none 0 0) ([] : List UInt8)] (fun w' hw => (yk hw T8 1).joinBv (i := 2) (j := 3) (by decide) rfl rfl) ?_
   refine xm (fst := []) (cap := []) rfl (by kernel_rfl) rfl rfl (fun w' hw => (zDJ b13 (.slice none 0 0) ([] : List UInt8) x w' ‹_› (by first | omega | (simp <;> omega) | (constructor <;> (first | omega | (simp <;> omega)))) (hw.give [2] rfl (by decide))).mono ?_)
   rintro _ w1 ⟨sl'1_, rfl, hO⟩
   refine (?_ : CL _ _ _ _ _ _ (Own w [] [Res.row b2 85 [.func (.func 38) #[] #[], .func (.func 39) #[] #[], .func (.func 42) #[] #[]], Res.row b3 30 (CmdD.cells x), Res.bv b13 xK sl'1_ (([] : List UInt8) ++ x.enc)])) w1 (hw.frameL [2] rfl hO)
   refine zA (zB (zC rfl (yA rfl rfl (zc (o := 0) rfl rfl ?_))))
   refine zBg [Res.row b2 85 [.func (.func 38) #[] #[], .func (.func 39) #[] #[], .func (.func 42) #[] #[]], Res.row b3 30 (CmdD.cells x), Res.row b13 xK [sl'1_], Res.vec 5 1 sl'1_ (([] : List UInt8) ++ x.enc).length ((([] : List UInt8) ++ x.enc).map vb)] (fun w' hw => hw.splitBv (i := 2) (o := b13) (T := xK) (v := sl'1_) (bs := (([] : List UInt8) ++ x.enc)) rfl) ?_
   refine ze 2 (v := sl'1_) rfl rfl rfl rfl (zH rfl (zH rfl (zA ?_)))
   exact zR (yV (v := sl'1_) (v' := Vi 0) rfl rfl rfl (fun w' hw => ⟨sl'1_, (by rw [zEJ (Decidable.not_not.1 c1)]), by rw [if_pos (Decidable.not_not.1 c1)]; exact hw.one 3 rfl⟩))
theorem j7 (x : CmdD) (w : World) (hx : x.wf) : Rets Try.prog 18 #[.agg (CmdD.cells x).toArray] w fun u_ w' => ∃ (r : Value), u_ = .tuple #[r, Vi (yO x.ok)] ∧ Own w [] [Res.vec 5 1 r (if x.ok then x.enc else []).length ((if x.ok then x.enc else []).map vb)] w' := by
  refine zg Try.func18 rfl Try.ntmps18 (Own.start w) ?_
  refine zB (ya rfl rfl (fun b1 => zH rfl (zH rfl (zA (zO (zW [0] rfl (by decide) (by kernel_rfl) (fun w' hw hS => zE 1 rfl (zAs (cs := (CmdD.cells x)) 0 rfl rfl) hS (zZ 0 rfl hw (zQ rfl rfl (fun w' hw => (zDV w').mono ?_))))))))))
  rintro _ w1 ⟨rfl, hO⟩
  refine (?_ : CL _ _ _ _ _ _ (Own w [] [Res.row b1 30 (CmdD.cells x)])) w1 (hw.frame0 hO)
  refine zF [0] rfl (by decide) (fun w' hw hS => zZ 2 rfl hw (zQ rfl rfl (fun w' hw => (zDW x w' ‹_›).mono ?_)))
  rintro _ w1 ⟨r1_, rfl, hO⟩
  refine (?_ : CL _ _ _ _ _ _ (Own w [] [Res.row b1 30 (CmdD.cells x), Res.vec 5 1 r1_ (if x.ok then x.enc else []).length ((if x.ok then x.enc else []).map vb)])) w1 (hw.frame0 hO)
  refine zF [0] rfl (by decide) (fun w' hw hS => zE 3 rfl (yh (vs := [r1_, Vi (yO x.ok)]) rfl rfl) hS (zE 4 rfl (yh (vs := [r1_, Vi (yO x.ok)]) rfl rfl) hS (zE 5 rfl (xN) hS (zE 6 rfl (xN) hS (zK ?_)))))
  refine (?_ : C _ _ _ _ _ _ _ (Own w [] [Res.row b1 30 (CmdD.cells x), Res.vec 5 1 r1_ (if x.ok then x.enc else []).length ((if x.ok then x.enc else []).map vb)])) _ hw
  exact zR (yV (v := r1_) (v' := Vi (yO x.ok)) rfl rfl rfl (fun w' hw => ⟨r1_, rfl, hw.sel [1] rfl (by decide)⟩))
theorem zDn (x : RepD) (w : World) : Rets Try.prog 89 #[.agg (RepD.cells x).toArray] w fun u_ w' => u_ = .bool (decide x.ok) ∧ Own w [] [] w' := by
  refine zg Try.func89 rfl Try.ntmps89 (Own.start w) ?_
  refine zB (ya rfl rfl (fun b1 => zH rfl (zA (zB (zc (o := 2) rfl rfl (ze 0 (v := Vi x.e) rfl rfl rfl rfl (yY rfl rfl rfl (zC rfl (yW (q := 0 ≤ x.e) 3 3 [9, 8, 7] (x.e ≤ 20) rfl rfl rfl rfl rfl rfl trivial rfl (fun h1_3 => ?_) (fun g1_7 => ?_))))))))))
  ·
   refine zV rfl (gT h1_3) (zc (o := 2) rfl rfl (zV rfl (gT h1_3) (ze 0 (v := Vi x.e) rfl rfl rfl rfl (zV rfl (gT h1_3) (zAQ rfl rfl rfl ?_)))))
   exact yg rfl (fun _ hw => hw)
  refine zH rfl (zA ?_)
  exact zR (z6 (v := .bool (decide ((0 ≤ x.e) ∧ (x.e ≤ 20)))) rfl rfl (fun w' hw => ⟨rfl, hw.drop⟩))
theorem zDY {S : List Nat} (o : Nat) (sl : Value) (bs : List UInt8) (x : RepD) (w : World) (hx : x.wf) (hb : bs.length ≤ 1000000000) (hin : Own w S [Res.bv o xK sl bs] w) : Rets Try.prog 90 #[.pointer (some ⟨o, 0, none⟩), .agg (RepD.cells x).toArray] w fun u_ w' => ∃ (sl' : Value), u_ = .tuple #[] ∧ Own w S [Res.bv o xK sl' (bs ++ x.enc)] w' := by
  refine zg Try.func90 rfl Try.ntmps90 hin ?_
  refine zB (ya rfl rfl (fun b3 => zA (zj (zC rfl (zc (o := 0) rfl rfl (ze 1 (v := Vn x.session) rfl rfl rfl rfl (zc (o := 1) rfl rfl (ze 1 (v := Vn x.seq) rfl rfl rfl rfl (zc (o := 2) rfl rfl (ze 1 (v := Vi x.e) rfl rfl rfl rfl (xZ (by kernel_rfl) rfl (kO _) rfl ?_ (by kernel_rfl))))))))))))
  refine zc (o := 3) rfl rfl (ze 1 (v := Vn x.lease) rfl rfl rfl rfl (zc (o := 4) rfl rfl (ze 1 (v := Vi x.amount) rfl rfl rfl rfl (xZ (by kernel_rfl) rfl (kO _) rfl ?_ (by kernel_rfl)))))
  refine zc (o := 5) rfl rfl (ze 1 (v := Vi x.until_) rfl rfl rfl rfl (xZ (by kernel_rfl) rfl (kO _) rfl ?_ (by kernel_rfl)))
  refine yz (e := 28) (sz := 1) (vs := [Vn x.session, Vn x.seq, Vn (u64 x.e), Vn x.lease, Vn (u64 x.amount), Vn (u64 x.until_)]) (by kernel_rfl) rfl rfl (by simp [Value.cells]) (by decide) rfl (fun b20 => zQ rfl rfl (fun w' hw => (zDq o _ _ (.slice (some ⟨b20, 0, none⟩) 6 6) [x.session, x.seq, u64 x.e, x.lease, u64 x.amount, u64 x.until_] w' (by have := hx.session; have := hx.seq; have := hx.lease; simp [zB0, *]) (by first | omega | (simp <;> omega) | (constructor <;> (first | omega | (simp <;> omega)))) (hw.give [0] rfl (by decide)) (hw.rdVec 2 rfl [0] rfl rfl)).mono ?_))
  rintro _ w1 ⟨sl'1_, rfl, hO⟩
  refine (?_ : CL _ _ _ _ _ _ (Own w S [Res.row b3 32 (RepD.cells x), Res.vec 28 1 (.slice (some ⟨b20, 0, none⟩) 6 6) [x.session, x.seq, u64 x.e, x.lease, u64 x.amount, u64 x.until_].length ([x.session, x.seq, u64 x.e, x.lease, u64 x.amount, u64 x.until_].flatMap U1), Res.bv o xK sl'1_ (bs ++ yS [x.session, x.seq, u64 x.e, x.lease, u64 x.amount, u64 x.until_])])) w1 (hw.frameL [0] rfl hO)
  exact zf (ja rfl (fun w' hw => ⟨sl'1_, rfl, hw.sel [2] rfl (by decide)⟩))
theorem zEW (w : World) : Rets Try.prog 81 #[] w fun u_ w' => u_ = .agg #[.func (.func 89) #[] #[], .func (.func 90) #[] #[], .func (.func 91) #[] #[]] ∧ Own w [] [] w' := by
  refine zg Try.func81 rfl Try.ntmps81 (Own.start w) ?_
  refine zB (yR (v := .agg #[.nilFunc, .nilFunc, .nilFunc]) (by kernel_rfl) rfl (fun b0 => zA (zB (yN (cs := [.func (.func 89) #[] #[], .func (.func 90) #[] #[], .func (.func 91) #[] #[]]) (z := [.nilFunc, .nilFunc, .nilFunc]) (pl := [(0, 1), (1, 1), (2, 1)]) (by kernel_rfl) (by kernel_rfl) rfl (zt 0 rfl rfl rfl (yC rfl) rfl (zA ?_))))))
  exact zR (zCM (cs := [.func (.func 89) #[] #[], .func (.func 90) #[] #[], .func (.func 91) #[] #[]]) rfl rfl (by kernel_rfl) (Own.rowCells (i := 0) rfl) (fun w' hw => ⟨rfl, hw.drop⟩))
theorem zDl (x : RepD) (w : World) (hx : x.wf) : Rets Try.prog 82 #[.agg #[.func (.func 89) #[] #[], .func (.func 90) #[] #[], .func (.func 91) #[] #[]], .agg (RepD.cells x).toArray] w fun u_ w' => ∃ (r : Value), u_ = .tuple #[r, Vi (yO x.ok)] ∧ Own w [] [Res.vec 5 1 r (if x.ok then x.enc else []).length ((if x.ok then x.enc else []).map vb)] w' := by
  refine zg Try.func82 rfl Try.ntmps82 (Own.start w) ?_
  refine zB (ya rfl rfl (fun b2 => ya rfl rfl (fun b3 => zH rfl (zH rfl (zA (zO (zB (zc (o := 0) rfl rfl (ze 0 (v := .func (.func 89) #[] #[]) rfl rfl rfl rfl (yr (cs := (RepD.cells x)) 1 rfl rfl rfl (xm (fst := []) (cap := []) rfl (by kernel_rfl) rfl rfl (fun w' hw => (zDn x w').mono ?_))))))))))))
  rintro _ w1 ⟨rfl, hO⟩
  refine (?_ : CL _ _ _ _ _ _ (Own w [] [Res.row b2 154 [.func (.func 89) #[] #[], .func (.func 90) #[] #[], .func (.func 91) #[] #[]], Res.row b3 32 (RepD.cells x)])) w1 (hw.frame0 hO)
  refine ku (q := x.ok) rfl rfl (zA (zU rfl (fun c1 => ?_) (fun c1 => ?_)))
  ·
   refine zB (zH rfl (zH rfl (zA ?_)))
   exact zR (yV (v := .slice none 0 0) (v' := Vi 2) rfl rfl rfl (fun w' hw => ⟨.slice none 0 0, (by rw [zEF c1]), by rw [if_neg c1]; exact (yk hw T8 1).one 2 rfl⟩))
  ·
   refine zM (zB (yN (cs := [.slice none 0 0]) (z := [.slice none 0 0]) (pl := [(0, 1)]) (by kernel_rfl) (by kernel_rfl) rfl (ya rfl rfl (fun b13 => zH rfl (zA (zB (zc (o := 1) rfl rfl (ze 0 (v := .func (.func 90) #[] #[]) rfl rfl rfl rfl (zC rfl (yr (cs := (RepD.cells x)) 1 rfl rfl rfl ?_))))))))))
   refine zBg [Res.row b2 154 [.func (.func 89) #[] #[], .func (.func 90) #[] #[], .func (.func 91) #[] #[]], Res.row b3 32 (RepD.cells x), Res.bv b13 xK (.slice none 0 0) ([] : List UInt8)] (fun w' hw => (yk hw T8 1).joinBv (i := 2) (j := 3) (by decide) rfl rfl) ?_
   refine xm (fst := []) (cap := []) rfl (by kernel_rfl) rfl rfl (fun w' hw => (zDY b13 (.slice none 0 0) ([] : List UInt8) x w' ‹_› (by first | omega | (simp <;> omega) | (constructor <;> (first | omega | (simp <;> omega)))) (hw.give [2] rfl (by decide))).mono ?_)
   rintro _ w1 ⟨sl'1_, rfl, hO⟩
   refine (?_ : CL _ _ _ _ _ _ (Own w [] [Res.row b2 154 [.func (.func 89) #[] #[], .func (.func 90) #[] #[], .func (.func 91) #[] #[]], Res.row b3 32 (RepD.cells x), Res.bv b13 xK sl'1_ (([] : List UInt8) ++ x.enc)])) w1 (hw.frameL [2] rfl hO)
   refine zA (zB (zC rfl (yA rfl rfl (zc (o := 0) rfl rfl ?_))))
   refine zBg [Res.row b2 154 [.func (.func 89) #[] #[], .func (.func 90) #[] #[], .func (.func 91) #[] #[]], Res.row b3 32 (RepD.cells x), Res.row b13 xK [sl'1_], Res.vec 5 1 sl'1_ (([] : List UInt8) ++ x.enc).length ((([] : List UInt8) ++ x.enc).map vb)] (fun w' hw => hw.splitBv (i := 2) (o := b13) (T := xK) (v := sl'1_) (bs := (([] : List UInt8) ++ x.enc)) rfl) ?_
   refine ze 2 (v := sl'1_) rfl rfl rfl rfl (zH rfl (zH rfl (zA ?_)))
   exact zR (yV (v := sl'1_) (v' := Vi 0) rfl rfl rfl (fun w' hw => ⟨sl'1_, (by rw [zEJ (Decidable.not_not.1 c1)]), by rw [if_pos (Decidable.not_not.1 c1)]; exact hw.one 3 rfl⟩))
theorem zDa (x : RepD) (w : World) (hx : x.wf) : Rets Try.prog 63 #[.agg (RepD.cells x).toArray] w fun u_ w' => ∃ (r : Value), u_ = .tuple #[r, Vi (yO x.ok)] ∧ Own w [] [Res.vec 5 1 r (if x.ok then x.enc else []).length ((if x.ok then x.enc else []).map vb)] w' := by
  refine zg Try.func63 rfl Try.ntmps63 (Own.start w) ?_
  refine zB (ya rfl rfl (fun b1 => zH rfl (zH rfl (zA (zO (zW [0] rfl (by decide) (by kernel_rfl) (fun w' hw hS => zE 1 rfl (zAs (cs := (RepD.cells x)) 0 rfl rfl) hS (zZ 0 rfl hw (zQ rfl rfl (fun w' hw => (zEW w').mono ?_))))))))))
  rintro _ w1 ⟨rfl, hO⟩
  refine (?_ : CL _ _ _ _ _ _ (Own w [] [Res.row b1 32 (RepD.cells x)])) w1 (hw.frame0 hO)
  refine zF [0] rfl (by decide) (fun w' hw hS => zZ 2 rfl hw (zQ rfl rfl (fun w' hw => (zDl x w' ‹_›).mono ?_)))
  rintro _ w1 ⟨r1_, rfl, hO⟩
  refine (?_ : CL _ _ _ _ _ _ (Own w [] [Res.row b1 32 (RepD.cells x), Res.vec 5 1 r1_ (if x.ok then x.enc else []).length ((if x.ok then x.enc else []).map vb)])) w1 (hw.frame0 hO)
  refine zF [0] rfl (by decide) (fun w' hw hS => zE 3 rfl (yh (vs := [r1_, Vi (yO x.ok)]) rfl rfl) hS (zE 4 rfl (yh (vs := [r1_, Vi (yO x.ok)]) rfl rfl) hS (zE 5 rfl (xN) hS (zE 6 rfl (xN) hS (zK ?_)))))
  refine (?_ : C _ _ _ _ _ _ _ (Own w [] [Res.row b1 32 (RepD.cells x), Res.vec 5 1 r1_ (if x.ok then x.enc else []).length ((if x.ok then x.enc else []).map vb)])) _ hw
  exact zR (yV (v := r1_) (v' := Vi (yO x.ok)) rfl rfl rfl (fun w' hw => ⟨r1_, rfl, hw.sel [1] rfl (by decide)⟩))
theorem zH6 (r s : CmdD) : eqL [(0, some (some .u64)), (1, some (some .u64)), (2, some (some .i64)), (3, some none), (4, some (some .i64)), (5, some (some .i64)), (6, some (some .u64))] r.cells s.cells = decide (r = s) := by
  obtain ⟨a, b, c, d, e, f, g⟩ := r
  obtain ⟨a', b', c', d', e', f', g'⟩ := s
  simp [eqL, CmdD.cells, eqC, CmdD.mk.injEq, Bool.decide_and]
  have h : ∀ m n : Nat, decide ((m : Int) = n) = decide (m = n) := fun m n => decide_eq_decide.2 (by omega)
  simp only [h]
def zJu (l : List UInt8) : ByteArray := ⟨l.toArray⟩
def zKH : List UInt8 → Nat → Option (CmdD × Nat) := yt zAY fun s => yt zAY fun q => yt (zGp 5) fun o => yt zIJ fun k => yt zAY fun a => yt zAY fun p => yt zAY fun l => j1 ⟨s, q, o, zJu k, toI a, toI p, l⟩
def zKR : List UInt8 → Nat → Option (RepD × Nat) := yt zAY fun s => yt zAY fun q => yt (zGp 20) fun e => yt zAY fun l => yt zAY fun a => yt zAY fun u => j1 ⟨s, q, e, l, toI a, toI u⟩
def zIK : CmdD := ⟨0, 0, 0, ⟨#[]⟩, 0, 0, 0⟩
def zJv : RepD := ⟨0, 0, 0, 0, 0, 0⟩
instance : DecidablePred CmdD.ok := fun x => inferInstance
instance : DecidablePred RepD.ok := fun x => inferInstance
def decCmd (b : List UInt8) : Option CmdD := zAo zKH CmdD.ok b
def decRpl (b : List UInt8) : Option RepD := zAo zKR RepD.ok b
end Go.Proofs.Ytcdiehplbmkmeaa
