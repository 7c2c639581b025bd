import Derived.Test.YthincafbmpialaaGreatFwN
set_option linter.unusedSectionVars false
set_option linter.unusedSimpArgs false
set_option linter.unusedVariables false
set_option maxRecDepth 10000
namespace Go.Proofs.YthincafbmpialaaGreat
open Go Go.Sc Go.Proofs
def yG (n : Nat) : Int := if n ≤ 9223372036854775807 then n else (n : Int) - 18446744073709551616
theorem yy {n : Nat} (h : n < 18446744073709551616) : IntKind.i64.wrap (n : Int) = yG n := by
  rw [zKd (by omega)]; unfold yG; split <;> split <;> omega
theorem zAM {a : Int} (h : xD a) : yG (u64 a) = a := by unfold xD at h; unfold yG u64; split <;> omega
theorem zAK {n : Nat} (h : n < 18446744073709551616) : u64 (yG n) = n := by unfold yG u64; split <;> omega
theorem RdS.int {most : Nat} {b : List UInt8} {a a1 n : Nat} {bad bad1 : Bool} (h : RdS (jf most) b a bad n a1 bad1) : RdS (zFH most) b a bad (n : Int) a1 bad1 := RdS.map (fun n : Nat => (n : Int)) h
structure CmdD where
  session : Nat
  seq : Nat
  op : Int
  key : ByteArray
  amount : Int
  span : Int
  lease : Nat
  deriving DecidableEq
structure CmdD.wf (x : CmdD) : Prop where
  session : x.session < 18446744073709551616
  seq : x.seq < 18446744073709551616
  key : x.key.size ≤ 1048576
  amount : xD x.amount
  span : xD x.span
  lease : x.lease < 18446744073709551616
def CmdD.cells (x : CmdD) : List Value := [.int .u64 x.session, .int .u64 x.seq, .int .i64 x.op, .string x.key, .int .i64 x.amount, .int .i64 x.span, .int .u64 x.lease]
def CmdD.ok (x : CmdD) : Prop := (1 ≤ x.op ∧ x.op ≤ 5) ∧ x.key.size ≤ 64
instance (x : CmdD) : Decidable x.ok := inferInstanceAs (Decidable ((_ ∧ _) ∧ _))
def zAm (s : ByteArray) : List UInt8 := s.data.toList
theorem x4 (s : ByteArray) : (zAm s).length = s.size := by unfold zAm; rw [Array.length_toList]; rfl
def CmdD.enc (x : CmdD) : List UInt8 := yj [x.session, x.seq, u64 x.op] ++ jj (zAm x.key) ++ yj [u64 x.amount, u64 x.span, x.lease]
structure RepD where
  session : Nat
  seq : Nat
  e : Int
  lease : Nat
  amount : Int
  until_ : Int
  deriving DecidableEq
structure RepD.wf (r : RepD) : Prop where
  session : r.session < 18446744073709551616
  seq : r.seq < 18446744073709551616
  lease : r.lease < 18446744073709551616
  amount : xD r.amount
  until_ : xD r.until_
def RepD.cells (r : RepD) : List Value := [.int .u64 r.session, .int .u64 r.seq, .int .i64 r.e, .int .u64 r.lease, .int .i64 r.amount, .int .i64 r.until_]
def RepD.ok (r : RepD) : Prop := 0 ≤ r.e ∧ r.e ≤ 20
instance (r : RepD) : Decidable r.ok := inferInstanceAs (Decidable (_ ∧ _))
def RepD.enc (r : RepD) : List UInt8 := yj [r.session, r.seq, u64 r.e, r.lease, u64 r.amount, u64 r.until_]
theorem zCk (x : CmdD) (w : World) (hx : x.key.size ≤ 1048576) : Rets Tryz.prog 99 #[.agg (CmdD.cells x).toArray] w fun u_ w' => u_ = .bool (decide x.ok) ∧ Own w [] [] w' := by
  refine zb Tryz.func99 rfl Tryz.ntmps99 (Own.start w) ?_
  refine zB (yb rfl rfl (fun b1 => zD rfl (zA (zB (zX (o := 2) rfl rfl (zY 0 (v := Vi x.op) rfl rfl rfl rfl (xG rfl rfl rfl (zC rfl (yW (q := 1 ≤ x.op) 3 3 [9, 8, 7] (x.op ≤ 5) rfl rfl rfl rfl rfl rfl trivial rfl (fun h1_3 => ?_) (fun g1_7 => ?_))))))))))
  ·
   refine zS rfl (gT h1_3) (zX (o := 2) rfl rfl (zS rfl (gT h1_3) (zY 0 (v := Vi x.op) rfl rfl rfl rfl (zS rfl (gT h1_3) (jh rfl rfl rfl ?_)))))
   exact ya rfl (fun _ hw => hw)
  refine zC rfl (yW (q := (1 ≤ x.op) ∧ (x.op ≤ 5)) 4 8 [15, 14, 13, 12] (((x.key.size : Nat) : Int) ≤ 64) rfl rfl rfl rfl rfl rfl trivial rfl (fun h1_8 => ?_) (fun g1_13 => ?_))
  ·
   refine zS rfl (gT h1_8) (zX (o := 3) rfl rfl (zS rfl (gT h1_8) (zY 0 (v := .string x.key) rfl rfl rfl rfl (zS rfl (gT h1_8) (zIC (by kernel_rfl) rfl rfl (zS rfl (gT h1_8) (jh rfl rfl rfl ?_)))))))
   exact ya rfl (fun _ hw => hw)
  refine zD rfl (zA ?_)
  exact zP (z8 (v := .bool (decide (((1 ≤ x.op) ∧ (x.op ≤ 5)) ∧ (((x.key.size : Nat) : Int) ≤ 64)))) rfl rfl (fun w' hw => ⟨(by congr 1; exact decide_eq_decide.2 (by unfold CmdD.ok; omega)), hw.drop⟩))
theorem zEk {S : List Nat} (o : Nat) (sl : Value) (bs : List UInt8) (x : CmdD) (w : World) (hx : x.wf) (hb : bs.length ≤ 1000000000) (hin : Own w S [Res.bv o xU sl bs] w) : Rets Tryz.prog 100 #[.pointer (some ⟨o, 0, none⟩), .agg (CmdD.cells x).toArray] w fun u_ w' => ∃ (sl' : Value), u_ = .tuple #[] ∧ Own w S [Res.bv o xU sl' (bs ++ x.enc)] w' := by
  have hk : x.key.data.toList.length = x.key.size := x4 x.key
  have hk2 := hx.key
  have hd := zAg x.key.data.toList (by omega)
  have hn1 := xh (ns := [x.session, x.seq, u64 x.op]) (by have := hx.session; have := hx.seq; simp [yh, *])
  simp only [List.length_cons, List.length_nil] at hn1
  refine zb Tryz.func100 rfl Tryz.ntmps100 hin ?_
  refine zB (yb rfl rfl (fun b3 => zA (zB (zC rfl (zX (o := 0) rfl rfl (zY 1 (v := Vn x.session) rfl rfl rfl rfl (zX (o := 1) rfl rfl (zY 1 (v := Vn x.seq) rfl rfl rfl rfl (zX (o := 2) rfl rfl (zY 1 (v := Vi x.op) rfl rfl rfl rfl (yv (by kernel_rfl) rfl (xK _) rfl ?_ (by kernel_rfl))))))))))))
  refine xF (e := 28) (sz := 1) (vs := [Vn x.session, Vn x.seq, Vn (u64 x.op)]) (by kernel_rfl) rfl rfl (by simp [Value.cells]) (by decide) rfl (fun b12 => zK rfl rfl (fun w' hw => (zDN o _ _ (.slice (some ⟨b12, 0, none⟩) 3 3) [x.session, x.seq, u64 x.op] w' (by have := hx.session; have := hx.seq; simp [yh, *]) (by first | omega | (simp <;> omega) | (constructor <;> (first | omega | (simp <;> omega)))) (hw.give [0] rfl (by decide)) (hw.rdVec 2 rfl [0] rfl rfl)).mono ?_))
  rintro _ w1 ⟨sl'1_, rfl, hO⟩
  refine (?_ : CL _ _ _ _ _ _ (Own w S [Res.row b3 47 (CmdD.cells x), Res.vec 28 1 (.slice (some ⟨b12, 0, none⟩) 3 3) [x.session, x.seq, u64 x.op].length ([x.session, x.seq, u64 x.op].flatMap U1), Res.bv o xU sl'1_ (bs ++ yj [x.session, x.seq, u64 x.op])])) w1 (hw.frameL [0] rfl hO)
  refine zA (zB (zC rfl (zX (o := 3) rfl rfl (zY 0 (v := .string x.key) rfl rfl rfl rfl (zIK (by kernel_rfl) (by kernel_rfl) rfl (by rw [yx]; omega) rfl (fun v17 => ?_))))))
  refine yu (fun w' hw => Sl.cell1 (Own.holds hw 3 _ rfl)) (fun hc1_ => ?_)
  refine zB5 (e := 52) (vs := [v17]) (by kernel_rfl) rfl rfl (zx hc1_ xB) (by decide) rfl (fun b18 => zK rfl rfl (fun w' hw => (zHR o sl'1_ (bs ++ yj [x.session, x.seq, u64 x.op]) (.slice (some ⟨b18, 0, none⟩) 1 1) [(v17, x.key.data.toList)] w' (by simp [yA]; omega) (by show 1 ≤ _; omega) (hw.give [2] rfl (by decide)) (hw.rdVec 4 rfl [2] rfl rfl) (all_cons (hw.rdRes 3 rfl [2] rfl rfl) (fun p hp => by cases hp))).mono ?_))
  rintro _ w1 ⟨sl'2_, rfl, hO⟩
  refine (?_ : CL _ _ _ _ _ _ (Own w S [Res.row b3 47 (CmdD.cells x), Res.vec 28 1 (.slice (some ⟨b12, 0, none⟩) 3 3) [x.session, x.seq, u64 x.op].length ([x.session, x.seq, u64 x.op].flatMap U1), Res.sl v17 x.key.data.toList.length (x.key.data.toList.map vb), Res.vec 52 1 (.slice (some ⟨b18, 0, none⟩) 1 1) [(v17, x.key.data.toList)].length ([(v17, x.key.data.toList)].flatMap pv), Res.bv o xU sl'2_ ((bs ++ yj [x.session, x.seq, u64 x.op]) ++ yA [(v17, x.key.data.toList)])])) w1 (hw.frameL [2] rfl hO)
  refine zA (zj (zC rfl (zX (o := 4) rfl rfl (zY 0 (v := Vi x.amount) rfl rfl rfl rfl (yv (by kernel_rfl) rfl (xK _) rfl ?_ (by kernel_rfl))))))
  refine zX (o := 5) rfl rfl (zY 0 (v := Vi x.span) rfl rfl rfl rfl (yv (by kernel_rfl) rfl (xK _) rfl ?_ (by kernel_rfl)))
  refine zX (o := 6) rfl rfl (zY 0 (v := Vn x.lease) rfl rfl rfl rfl (xF (e := 28) (sz := 1) (vs := [Vn (u64 x.amount), Vn (u64 x.span), Vn x.lease]) (by kernel_rfl) rfl rfl (by simp [Value.cells]) (by decide) rfl (fun b29 => zK rfl rfl (fun w' hw => (zDN o sl'2_ ((bs ++ yj [x.session, x.seq, u64 x.op]) ++ yA [(v17, x.key.data.toList)]) (.slice (some ⟨b29, 0, none⟩) 3 3) [u64 x.amount, u64 x.span, x.lease] w' (by have := hx.lease; simp [yh, *]) (by simp [yA]; omega) (hw.give [4] rfl (by decide)) (hw.rdVec 5 rfl [4] rfl rfl)).mono ?_))))
  rintro _ w1 ⟨sl'3_, rfl, hO⟩
  refine (?_ : CL _ _ _ _ _ _ (Own w S [Res.row b3 47 (CmdD.cells x), Res.vec 28 1 (.slice (some ⟨b12, 0, none⟩) 3 3) [x.session, x.seq, u64 x.op].length ([x.session, x.seq, u64 x.op].flatMap U1), Res.sl v17 x.key.data.toList.length (x.key.data.toList.map vb), Res.vec 52 1 (.slice (some ⟨b18, 0, none⟩) 1 1) [(v17, x.key.data.toList)].length ([(v17, x.key.data.toList)].flatMap pv), Res.vec 28 1 (.slice (some ⟨b29, 0, none⟩) 3 3) [u64 x.amount, u64 x.span, x.lease].length ([u64 x.amount, u64 x.span, x.lease].flatMap U1), Res.bv o xU sl'3_ (((bs ++ yj [x.session, x.seq, u64 x.op]) ++ yA [(v17, x.key.data.toList)]) ++ yj [u64 x.amount, u64 x.span, x.lease])])) w1 (hw.frameL [4] rfl hO)
  exact zf (jQ rfl (fun w' hw => ⟨sl'3_, rfl, by have h := hw.one 5 rfl; simpa [CmdD.enc, yA, zAm] using h⟩))
theorem zCK (w : World) : Rets Tryz.prog 60 #[] w fun u_ w' => u_ = .agg #[.func (.func 99) #[] #[], .func (.func 100) #[] #[], .func (.func 103) #[] #[]] ∧ Own w [] [] w' := by
  refine zb Tryz.func60 rfl Tryz.ntmps60 (Own.start w) ?_
  refine zB (yL (v := .agg #[.nilFunc, .nilFunc, .nilFunc]) (by kernel_rfl) rfl (fun b0 => zA (zB (yn (cs := [.func (.func 99) #[] #[], .func (.func 100) #[] #[], .func (.func 103) #[] #[]]) (z := [.nilFunc, .nilFunc, .nilFunc]) (pl := [(0, 1), (1, 1), (2, 1)]) (by kernel_rfl) (by kernel_rfl) rfl (zo 0 rfl rfl rfl (yI rfl) rfl (zA ?_))))))
  exact zP (jo (cs := [.func (.func 99) #[] #[], .func (.func 100) #[] #[], .func (.func 103) #[] #[]]) rfl rfl (by kernel_rfl) (Own.rowCells (i := 0) rfl) (fun w' hw => ⟨rfl, hw.drop⟩))
theorem zFB (x : CmdD) (w : World) (hx : x.wf) : Rets Tryz.prog 61 #[.agg #[.func (.func 99) #[] #[], .func (.func 100) #[] #[], .func (.func 103) #[] #[]], .agg (CmdD.cells x).toArray] w fun u_ w' => ∃ (r : Value), u_ = .tuple #[r, Vi (yg x.ok)] ∧ Own w [] [Res.vec 5 1 r (if x.ok then x.enc else []).length ((if x.ok then x.enc else []).map vb)] w' := by
  have hk := hx.key
  refine zb Tryz.func61 rfl Tryz.ntmps61 (Own.start w) ?_
  refine zB (yb rfl rfl (fun b2 => yb rfl rfl (fun b3 => zD rfl (zD rfl (zA (zL (zB (zX (o := 0) rfl rfl (zY 0 (v := .func (.func 99) #[] #[]) rfl rfl rfl rfl (yd (cs := (CmdD.cells x)) 1 rfl rfl rfl (y4 (fst := []) (cap := []) rfl (by kernel_rfl) rfl rfl (fun w' hw => (zCk x w' (by first | omega | (simp <;> omega))).mono ?_))))))))))))
  rintro _ w1 ⟨rfl, hO⟩
  refine (?_ : CL _ _ _ _ _ _ (Own w [] [Res.row b2 121 [.func (.func 99) #[] #[], .func (.func 100) #[] #[], .func (.func 103) #[] #[]], Res.row b3 47 (CmdD.cells x)])) w1 (hw.frame0 hO)
  refine kR (q := x.ok) rfl rfl (zA (zZ rfl (fun c1 => ?_) (fun c1 => ?_)))
  ·
   refine zB (zD rfl (zD rfl (zA ?_)))
   exact zP (xk (v := .slice none 0 0) (v' := Vi 2) rfl rfl rfl (fun w' hw => ⟨.slice none 0 0, (by rw [zDY c1]), by rw [if_neg c1]; exact (yQ hw T8 1).one 2 rfl⟩))
  ·
   refine zM (zB (yn (cs := [.slice none 0 0]) (z := [.slice none 0 0]) (pl := [(0, 1)]) (by kernel_rfl) (by kernel_rfl) rfl (yb rfl rfl (fun b13 => zD rfl (zA (zB (zX (o := 1) rfl rfl (zY 0 (v := .func (.func 100) #[] #[]) rfl rfl rfl rfl (zC rfl (yd (cs := (CmdD.cells x)) 1 rfl rfl rfl ?_))))))))))
   refine zBH [Res.row b2 121 [.func (.func 99) #[] #[], .func (.func 100) #[] #[], .func (.func 103) #[] #[]], Res.row b3 47 (CmdD.cells x), Res.bv b13 xU (.slice none 0 0) ([] : List UInt8)] (fun w' hw => (yQ hw T8 1).joinBv (i := 2) (j := 3) (by decide) rfl rfl) ?_
   refine y4 (fst := []) (cap := []) rfl (by kernel_rfl) rfl rfl (fun w' hw => (zEk b13 (.slice none 0 0) ([] : List UInt8) x w' ‹_› (by first | omega | (simp <;> omega) | (constructor <;> (first | omega | (simp <;> omega)))) (hw.give [2] rfl (by decide))).mono ?_)
   rintro _ w1 ⟨sl'1_, rfl, hO⟩
   refine (?_ : CL _ _ _ _ _ _ (Own w [] [Res.row b2 121 [.func (.func 99) #[] #[], .func (.func 100) #[] #[], .func (.func 103) #[] #[]], Res.row b3 47 (CmdD.cells x), Res.bv b13 xU sl'1_ (([] : List UInt8) ++ x.enc)])) w1 (hw.frameL [2] rfl hO)
   refine zA (zB (zC rfl (zr rfl rfl (zX (o := 0) rfl rfl ?_))))
   refine zBH [Res.row b2 121 [.func (.func 99) #[] #[], .func (.func 100) #[] #[], .func (.func 103) #[] #[]], Res.row b3 47 (CmdD.cells x), Res.row b13 xU [sl'1_], Res.vec 5 1 sl'1_ (([] : List UInt8) ++ x.enc).length ((([] : List UInt8) ++ x.enc).map vb)] (fun w' hw => hw.splitBv (i := 2) (o := b13) (T := xU) (v := sl'1_) (bs := (([] : List UInt8) ++ x.enc)) rfl) ?_
   refine zY 2 (v := sl'1_) rfl rfl rfl rfl (zD rfl (zD rfl (zA ?_)))
   exact zP (xk (v := sl'1_) (v' := Vi 0) rfl rfl rfl (fun w' hw => ⟨sl'1_, (by rw [zDs (Decidable.not_not.1 c1)]), by rw [if_pos (Decidable.not_not.1 c1)]; exact hw.one 3 rfl⟩))
theorem zDR (x : CmdD) (w : World) (hx : x.wf) : Rets Tryz.prog 25 #[.agg (CmdD.cells x).toArray] w fun u_ w' => ∃ (r : Value), u_ = .tuple #[r, Vi (yg x.ok)] ∧ Own w [] [Res.vec 5 1 r (if x.ok then x.enc else []).length ((if x.ok then x.enc else []).map vb)] w' := by
  refine zb Tryz.func25 rfl Tryz.ntmps25 (Own.start w) ?_
  refine zB (yb rfl rfl (fun b1 => zD rfl (zD rfl (zA (zL (zi [0] rfl (by decide) (by kernel_rfl) (fun w' hw hS => zG 1 rfl (je (cs := (CmdD.cells x)) 0 rfl rfl) hS (ze 0 rfl hw (zK rfl rfl (fun w' hw => (zCK w').mono ?_))))))))))
  rintro _ w1 ⟨rfl, hO⟩
  refine (?_ : CL _ _ _ _ _ _ (Own w [] [Res.row b1 47 (CmdD.cells x)])) w1 (hw.frame0 hO)
  refine zF [0] rfl (by decide) (fun w' hw hS => ze 2 rfl hw (zK rfl rfl (fun w' hw => (zFB x w' ‹_›).mono ?_)))
  rintro _ w1 ⟨r1_, rfl, hO⟩
  refine (?_ : CL _ _ _ _ _ _ (Own w [] [Res.row b1 47 (CmdD.cells x), Res.vec 5 1 r1_ (if x.ok then x.enc else []).length ((if x.ok then x.enc else []).map vb)])) w1 (hw.frame0 hO)
  refine zF [0] rfl (by decide) (fun w' hw hS => zG 3 rfl (yw (vs := [r1_, Vi (yg x.ok)]) rfl rfl) hS (zG 4 rfl (yw (vs := [r1_, Vi (yg x.ok)]) rfl rfl) hS (zG 5 rfl (xV) hS (zG 6 rfl (xV) hS (zO ?_)))))
  refine (?_ : C _ _ _ _ _ _ _ (Own w [] [Res.row b1 47 (CmdD.cells x), Res.vec 5 1 r1_ (if x.ok then x.enc else []).length ((if x.ok then x.enc else []).map vb)])) _ hw
  exact zP (xk (v := r1_) (v' := Vi (yg x.ok)) rfl rfl rfl (fun w' hw => ⟨r1_, rfl, hw.sel [1] rfl (by decide)⟩))
theorem zCI (x : RepD) (w : World) : Rets Tryz.prog 110 #[.agg (RepD.cells x).toArray] w fun u_ w' => u_ = .bool (decide x.ok) ∧ Own w [] [] w' := by
  refine zb Tryz.func110 rfl Tryz.ntmps110 (Own.start w) ?_
  refine zB (yb rfl rfl (fun b1 => zD rfl (zA (zB (zX (o := 2) rfl rfl (zY 0 (v := Vi x.e) rfl rfl rfl rfl (xG rfl rfl rfl (zC rfl (yW (q := 0 ≤ x.e) 3 3 [9, 8, 7] (x.e ≤ 20) rfl rfl rfl rfl rfl rfl trivial rfl (fun h1_3 => ?_) (fun g1_7 => ?_))))))))))
  ·
   refine zS rfl (gT h1_3) (zX (o := 2) rfl rfl (zS rfl (gT h1_3) (zY 0 (v := Vi x.e) rfl rfl rfl rfl (zS rfl (gT h1_3) (jh rfl rfl rfl ?_)))))
   exact ya rfl (fun _ hw => hw)
  refine zD rfl (zA ?_)
  exact zP (z8 (v := .bool (decide ((0 ≤ x.e) ∧ (x.e ≤ 20)))) rfl rfl (fun w' hw => ⟨rfl, hw.drop⟩))
theorem zE8 {S : List Nat} (o : Nat) (sl : Value) (bs : List UInt8) (x : RepD) (w : World) (hx : x.wf) (hb : bs.length ≤ 1000000000) (hin : Own w S [Res.bv o xU sl bs] w) : Rets Tryz.prog 111 #[.pointer (some ⟨o, 0, none⟩), .agg (RepD.cells x).toArray] w fun u_ w' => ∃ (sl' : Value), u_ = .tuple #[] ∧ Own w S [Res.bv o xU sl' (bs ++ x.enc)] w' := by
  refine zb Tryz.func111 rfl Tryz.ntmps111 hin ?_
  refine zB (yb rfl rfl (fun b3 => zA (zj (zC rfl (zX (o := 0) rfl rfl (zY 1 (v := Vn x.session) rfl rfl rfl rfl (zX (o := 1) rfl rfl (zY 1 (v := Vn x.seq) rfl rfl rfl rfl (zX (o := 2) rfl rfl (zY 1 (v := Vi x.e) rfl rfl rfl rfl (yv (by kernel_rfl) rfl (xK _) rfl ?_ (by kernel_rfl))))))))))))
  refine zX (o := 3) rfl rfl (zY 1 (v := Vn x.lease) rfl rfl rfl rfl (zX (o := 4) rfl rfl (zY 1 (v := Vi x.amount) rfl rfl rfl rfl (yv (by kernel_rfl) rfl (xK _) rfl ?_ (by kernel_rfl)))))
  refine zX (o := 5) rfl rfl (zY 1 (v := Vi x.until_) rfl rfl rfl rfl (yv (by kernel_rfl) rfl (xK _) rfl ?_ (by kernel_rfl)))
  refine xF (e := 28) (sz := 1) (vs := [Vn x.session, Vn x.seq, Vn (u64 x.e), Vn x.lease, Vn (u64 x.amount), Vn (u64 x.until_)]) (by kernel_rfl) rfl rfl (by simp [Value.cells]) (by decide) rfl (fun b20 => zK rfl rfl (fun w' hw => (zDN o _ _ (.slice (some ⟨b20, 0, none⟩) 6 6) [x.session, x.seq, u64 x.e, x.lease, u64 x.amount, u64 x.until_] w' (by have := hx.session; have := hx.seq; have := hx.lease; simp [yh, *]) (by first | omega | (simp <;> omega) | (constructor <;> (first | omega | (simp <;> omega)))) (hw.give [0] rfl (by decide)) (hw.rdVec 2 rfl [0] rfl rfl)).mono ?_))
  rintro _ w1 ⟨sl'1_, rfl, hO⟩
  refine (?_ : CL _ _ _ _ _ _ (Own w S [Res.row b3 43 (RepD.cells x), Res.vec 28 1 (.slice (some ⟨b20, 0, none⟩) 6 6) [x.session, x.seq, u64 x.e, x.lease, u64 x.amount, u64 x.until_].length ([x.session, x.seq, u64 x.e, x.lease, u64 x.amount, u64 x.until_].flatMap U1), Res.bv o xU sl'1_ (bs ++ yj [x.session, x.seq, u64 x.e, x.lease, u64 x.amount, u64 x.until_])])) w1 (hw.frameL [0] rfl hO)
  exact zf (jQ rfl (fun w' hw => ⟨sl'1_, rfl, hw.sel [2] rfl (by decide)⟩))
theorem zDB (w : World) : Rets Tryz.prog 74 #[] w fun u_ w' => u_ = .agg #[.func (.func 110) #[] #[], .func (.func 111) #[] #[], .func (.func 112) #[] #[]] ∧ Own w [] [] w' := by
  refine zb Tryz.func74 rfl Tryz.ntmps74 (Own.start w) ?_
  refine zB (yL (v := .agg #[.nilFunc, .nilFunc, .nilFunc]) (by kernel_rfl) rfl (fun b0 => zA (zB (yn (cs := [.func (.func 110) #[] #[], .func (.func 111) #[] #[], .func (.func 112) #[] #[]]) (z := [.nilFunc, .nilFunc, .nilFunc]) (pl := [(0, 1), (1, 1), (2, 1)]) (by kernel_rfl) (by kernel_rfl) rfl (zo 0 rfl rfl rfl (yI rfl) rfl (zA ?_))))))
  exact zP (jo (cs := [.func (.func 110) #[] #[], .func (.func 111) #[] #[], .func (.func 112) #[] #[]]) rfl rfl (by kernel_rfl) (Own.rowCells (i := 0) rfl) (fun w' hw => ⟨rfl, hw.drop⟩))
theorem zE1 (x : RepD) (w : World) (hx : x.wf) : Rets Tryz.prog 91 #[.agg #[.func (.func 110) #[] #[], .func (.func 111) #[] #[], .func (.func 112) #[] #[]], .agg (RepD.cells x).toArray] w fun u_ w' => ∃ (r : Value), u_ = .tuple #[r, Vi (yg x.ok)] ∧ Own w [] [Res.vec 5 1 r (if x.ok then x.enc else []).length ((if x.ok then x.enc else []).map vb)] w' := by
  refine zb Tryz.func91 rfl Tryz.ntmps91 (Own.start w) ?_
  refine zB (yb rfl rfl (fun b2 => yb rfl rfl (fun b3 => zD rfl (zD rfl (zA (zL (zB (zX (o := 0) rfl rfl (zY 0 (v := .func (.func 110) #[] #[]) rfl rfl rfl rfl (yd (cs := (RepD.cells x)) 1 rfl rfl rfl (y4 (fst := []) (cap := []) rfl (by kernel_rfl) rfl rfl (fun w' hw => (zCI x w').mono ?_))))))))))))
  rintro _ w1 ⟨rfl, hO⟩
  refine (?_ : CL _ _ _ _ _ _ (Own w [] [Res.row b2 137 [.func (.func 110) #[] #[], .func (.func 111) #[] #[], .func (.func 112) #[] #[]], Res.row b3 43 (RepD.cells x)])) w1 (hw.frame0 hO)
  refine kR (q := x.ok) rfl rfl (zA (zZ rfl (fun c1 => ?_) (fun c1 => ?_)))
  ·
   refine zB (zD rfl (zD rfl (zA ?_)))
   exact zP (xk (v := .slice none 0 0) (v' := Vi 2) rfl rfl rfl (fun w' hw => ⟨.slice none 0 0, (by rw [zDY c1]), by rw [if_neg c1]; exact (yQ hw T8 1).one 2 rfl⟩))
  ·
   refine zM (zB (yn (cs := [.slice none 0 0]) (z := [.slice none 0 0]) (pl := [(0, 1)]) (by kernel_rfl) (by kernel_rfl) rfl (yb rfl rfl (fun b13 => zD rfl (zA (zB (zX (o := 1) rfl rfl (zY 0 (v := .func (.func 111) #[] #[]) rfl rfl rfl rfl (zC rfl (yd (cs := (RepD.cells x)) 1 rfl rfl rfl ?_))))))))))
   refine zBH [Res.row b2 137 [.func (.func 110) #[] #[], .func (.func 111) #[] #[], .func (.func 112) #[] #[]], Res.row b3 43 (RepD.cells x), Res.bv b13 xU (.slice none 0 0) ([] : List UInt8)] (fun w' hw => (yQ hw T8 1).joinBv (i := 2) (j := 3) (by decide) rfl rfl) ?_
   refine y4 (fst := []) (cap := []) rfl (by kernel_rfl) rfl rfl (fun w' hw => (zE8 b13 (.slice none 0 0) ([] : List UInt8) x w' ‹_› (by first | omega | (simp <;> omega) | (constructor <;> (first | omega | (simp <;> omega)))) (hw.give [2] rfl (by decide))).mono ?_)
   rintro _ w1 ⟨sl'1_, rfl, hO⟩
   refine (?_ : CL _ _ _ _ _ _ (Own w [] [Res.row b2 137 [.func (.func 110) #[] #[], .func (.func 111) #[] #[], .func (.func 112) #[] #[]], Res.row b3 43 (RepD.cells x), Res.bv b13 xU sl'1_ (([] : List UInt8) ++ x.enc)])) w1 (hw.frameL [2] rfl hO)
   refine zA (zB (zC rfl (zr rfl rfl (zX (o := 0) rfl rfl ?_))))
   refine zBH [Res.row b2 137 [.func (.func 110) #[] #[], .func (.func 111) #[] #[], .func (.func 112) #[] #[]], Res.row b3 43 (RepD.cells x), Res.row b13 xU [sl'1_], Res.vec 5 1 sl'1_ (([] : List UInt8) ++ x.enc).length ((([] : List UInt8) ++ x.enc).map vb)] (fun w' hw => hw.splitBv (i := 2) (o := b13) (T := xU) (v := sl'1_) (bs := (([] : List UInt8) ++ x.enc)) rfl) ?_
   refine zY 2 (v := sl'1_) rfl rfl rfl rfl (zD rfl (zD rfl (zA ?_)))
   exact zP (xk (v := sl'1_) (v' := Vi 0) rfl rfl rfl (fun w' hw => ⟨sl'1_, (by rw [zDs (Decidable.not_not.1 c1)]), by rw [if_pos (Decidable.not_not.1 c1)]; exact hw.one 3 rfl⟩))
theorem zAu (x : RepD) (w : World) (hx : x.wf) : Rets Tryz.prog 53 #[.agg (RepD.cells x).toArray] w fun u_ w' => ∃ (r : Value), u_ = .tuple #[r, Vi (yg x.ok)] ∧ Own w [] [Res.vec 5 1 r (if x.ok then x.enc else []).length ((if x.ok then x.enc else []).map vb)] w' := by
  refine zb Tryz.func53 rfl Tryz.ntmps53 (Own.start w) ?_
  refine zB (yb rfl rfl (fun b1 => zD rfl (zD rfl (zA (zL (zi [0] rfl (by decide) (by kernel_rfl) (fun w' hw hS => zG 1 rfl (je (cs := (RepD.cells x)) 0 rfl rfl) hS (ze 0 rfl hw (zK rfl rfl (fun w' hw => (zDB w').mono ?_))))))))))
  rintro _ w1 ⟨rfl, hO⟩
  refine (?_ : CL _ _ _ _ _ _ (Own w [] [Res.row b1 43 (RepD.cells x)])) w1 (hw.frame0 hO)
  refine zF [0] rfl (by decide) (fun w' hw hS => ze 2 rfl hw (zK rfl rfl (fun w' hw => (zE1 x w' ‹_›).mono ?_)))
  rintro _ w1 ⟨r1_, rfl, hO⟩
  refine (?_ : CL _ _ _ _ _ _ (Own w [] [Res.row b1 43 (RepD.cells x), Res.vec 5 1 r1_ (if x.ok then x.enc else []).length ((if x.ok then x.enc else []).map vb)])) w1 (hw.frame0 hO)
  refine zF [0] rfl (by decide) (fun w' hw hS => zG 3 rfl (yw (vs := [r1_, Vi (yg x.ok)]) rfl rfl) hS (zG 4 rfl (yw (vs := [r1_, Vi (yg x.ok)]) rfl rfl) hS (zG 5 rfl (xV) hS (zG 6 rfl (xV) hS (zO ?_)))))
  refine (?_ : C _ _ _ _ _ _ _ (Own w [] [Res.row b1 43 (RepD.cells x), Res.vec 5 1 r1_ (if x.ok then x.enc else []).length ((if x.ok then x.enc else []).map vb)])) _ hw
  exact zP (xk (v := r1_) (v' := Vi (yg x.ok)) rfl rfl rfl (fun w' hw => ⟨r1_, rfl, hw.sel [1] rfl (by decide)⟩))
def x3 (l : List UInt8) : ByteArray := ⟨l.toArray⟩
def zLs : List UInt8 → Nat → Option (CmdD × Nat) := zk yC fun s => zk yC fun q => zk (zFH 5) fun o => zk yi fun k => zk yC fun a => zk yC fun p => zk yC fun l => yM ⟨s, q, o, x3 k, yG a, yG p, l⟩
def zLH : List UInt8 → Nat → Option (RepD × Nat) := zk yC fun s => zk yC fun q => zk (zFH 20) fun e => zk yC fun l => zk yC fun a => zk yC fun u => yM ⟨s, q, e, l, yG a, yG u⟩
def zLU : CmdD := ⟨0, 0, 0, ⟨#[]⟩, 0, 0, 0⟩
def zIh : RepD := ⟨0, 0, 0, 0, 0, 0⟩
instance : DecidablePred CmdD.ok := fun x => inferInstance
instance : DecidablePred RepD.ok := fun x => inferInstance
def jT (b : List UInt8) : Option CmdD := jN zLs CmdD.ok b
def kj (b : List UInt8) : Option RepD := jN zLH RepD.ok b
theorem zFy {S : List Nat} (o : Nat) (v : Value) (b : List UInt8) (a : Nat) (bad : Bool) (w : World) (hl : zd b.length) (ha : a ≤ b.length) (hin : Own w S [Res.row o 185 [v, Vj a, .bool bad]] w) (hb : Rd w S (Res.sl v b.length (b.map vb))) : Rets Tryz.prog 103 #[.pointer (some ⟨o, 0, none⟩)] w fun u_ w' => ∃ (s : Nat) (q : Nat) (op : Nat) (k : ByteArray) (am : Int) (sp : Int) (le : Nat) (a' : Nat) (bad' : Bool), u_ = .agg #[Vn s, Vn q, Vj op, .string k, Vi am, Vi sp, Vn le] ∧ RdS zLs b a bad (⟨s, q, (op : Int), k, am, sp, le⟩ : CmdD) a' bad' ∧ k.size ≤ b.length ∧ Own w S [Res.row o 185 [v, Vj a', .bool bad']] w' := by
  refine zb Tryz.func103 rfl Tryz.ntmps103 hin ?_
  refine zB (yL (v := .agg #[Vn 0, Vn 0, Vi 0, .string (⟨#[]⟩ : ByteArray), Vi 0, Vi 0, Vn 0]) (by kernel_rfl) rfl (fun b2 => zA (zL (zi [] rfl (by decide) (by kernel_rfl) (fun w' hw hS => zG 0 rfl (zN) hS (zG 2 rfl (zN) hS (zG 4 rfl (zN) hS (zG 6 rfl (zN) hS (zG 9 rfl (zN) hS (zG 12 rfl (zN) hS (zG 15 rfl (zN) hS (ze 1 rfl hw ?_))))))))))))
  refine zK rfl rfl (fun w' hw => (xA o v b a bad w' (by first | assumption | omega | (simp <;> omega) | (constructor <;> (first | omega | (simp only [zd]; omega) | (simp <;> omega)))) (by first | omega | (simp <;> omega)) (hw.give [0] rfl (by decide)) (hw.rdTo hb [0] rfl)).mono ?_)
  rintro _ w1 ⟨n1_, a'2_, bad'3_, rfl, hf1_1, hf1_1_1, hO⟩
  have hq1 := hf1_1.le
  refine (?_ : CL _ _ _ _ _ _ (Own w S [Res.row b2 47 [Vn 0, Vn 0, Vi 0, .string (⟨#[]⟩ : ByteArray), Vi 0, Vi 0, Vn 0], Res.row o 185 [v, Vj a'2_, .bool bad'3_]])) w1 (hw.frameL [0] rfl hO)
  refine zJ 3 rfl (zK rfl rfl (fun w' hw => (xA o v b a'2_ bad'3_ w' (by first | assumption | omega | (simp <;> omega) | (constructor <;> (first | omega | (simp only [zd]; omega) | (simp <;> omega)))) (by first | omega | (simp <;> omega)) (hw.give [1] rfl (by decide)) (hw.rdTo hb [1] rfl)).mono ?_))
  rintro _ w1 ⟨n4_, a'5_, bad'6_, rfl, hf1_3, hf1_3_1, hO⟩
  have hq2 := hf1_3.le
  refine (?_ : CL _ _ _ _ _ _ (Own w S [Res.row b2 47 [Vn 0, Vn 0, Vi 0, .string (⟨#[]⟩ : ByteArray), Vi 0, Vi 0, Vn 0], Res.row o 185 [v, Vj a'5_, .bool bad'6_]])) w1 (hw.frameL [1] rfl hO)
  refine zJ 5 rfl (zK rfl rfl (fun w' hw => (zA1 o v b a'5_ bad'6_ 5 w' (by first | assumption | omega | (simp <;> omega) | (constructor <;> (first | omega | (simp only [zd]; omega) | (simp <;> omega)))) (by first | omega | (simp <;> omega)) (by first | omega | (simp <;> omega)) (hw.give [1] rfl (by decide)) (hw.rdTo hb [1] rfl)).mono ?_))
  rintro _ w1 ⟨n7_, a'8_, bad'9_, rfl, hf1_5, hf1_5_1, hO⟩
  have hq3 := hf1_5.le
  refine (?_ : CL _ _ _ _ _ _ (Own w S [Res.row b2 47 [Vn 0, Vn 0, Vi 0, .string (⟨#[]⟩ : ByteArray), Vi 0, Vi 0, Vn 0], Res.row o 185 [v, Vj a'8_, .bool bad'9_]])) w1 (hw.frameL [1] rfl hO)
  refine zJ 7 rfl (zK rfl rfl (fun w' hw => (zHi o v b a'8_ bad'9_ w' (by first | assumption | omega | (simp <;> omega) | (constructor <;> (first | omega | (simp only [zd]; omega) | (simp <;> omega)))) (by first | omega | (simp <;> omega)) (hw.give [1] rfl (by decide)) (hw.rdTo hb [1] rfl)).mono ?_))
  rintro r10_ w1 ⟨_, d11_, a'12_, bad'13_, rfl, hf1_7, hf1_7_1, hO⟩
  have hq4 := hf1_7.le
  refine (?_ : CL _ _ _ _ _ _ (Own w S [Res.row b2 47 [Vn 0, Vn 0, Vi 0, .string (⟨#[]⟩ : ByteArray), Vi 0, Vi 0, Vn 0], Res.row o 185 [v, Vj a'12_, .bool bad'13_], Res.vec 5 1 r10_ d11_.length (d11_.map vb)])) w1 (hw.frameL [1] rfl hO)
  refine zF [] rfl (by decide) (fun w' hw hS => zc 8 10 ?_ ?_)
  ·
   refine zT 8 rfl hw (kO (bs := d11_) (by kernel_rfl) (by kernel_rfl) rfl (fun w' hw' => Vec.sl (Own.holds hw' 2 _ rfl)) rfl (zJ 10 rfl (zK rfl rfl (fun w' hw => (xA o v b a'12_ bad'13_ w' (by first | assumption | omega | (simp <;> omega) | (constructor <;> (first | omega | (simp only [zd]; omega) | (simp <;> omega)))) (by first | omega | (simp <;> omega)) (hw.give [1] rfl (by decide)) (hw.rdTo hb [1] rfl)).mono ?_))))
   rintro _ w1 ⟨n14_, a'15_, bad'16_, rfl, hf1_10, hf1_10_1, hO⟩
   have hq5 := hf1_10.le
   refine (?_ : CL _ _ _ _ _ _ (Own w S [Res.row b2 47 [Vn 0, Vn 0, Vi 0, .string (⟨#[]⟩ : ByteArray), Vi 0, Vi 0, Vn 0], Res.vec 5 1 r10_ d11_.length (d11_.map vb), Res.row o 185 [v, Vj a'15_, .bool bad'16_]])) w1 (hw.frameL [1] rfl hO)
   refine zF [] rfl (by decide) (fun w' hw hS => zG 11 rfl (kh (c := yG n14_) (by kernel_rfl) rfl (yy hf1_10_1) (by kernel_rfl)) hS (ze 13 rfl hw (zK rfl rfl (fun w' hw => (xA o v b a'15_ bad'16_ w' (by first | assumption | omega | (simp <;> omega) | (constructor <;> (first | omega | (simp only [zd]; omega) | (simp <;> omega)))) (by first | omega | (simp <;> omega)) (hw.give [2] rfl (by decide)) (hw.rdTo hb [2] rfl)).mono ?_))))
   rintro _ w1 ⟨n17_, a'18_, bad'19_, rfl, hf1_13, hf1_13_1, hO⟩
   have hq6 := hf1_13.le
   refine (?_ : CL _ _ _ _ _ _ (Own w S [Res.row b2 47 [Vn 0, Vn 0, Vi 0, .string (⟨#[]⟩ : ByteArray), Vi 0, Vi 0, Vn 0], Res.vec 5 1 r10_ d11_.length (d11_.map vb), Res.row o 185 [v, Vj a'18_, .bool bad'19_]])) w1 (hw.frameL [2] rfl hO)
   refine zF [] rfl (by decide) (fun w' hw hS => zG 14 rfl (kh (c := yG n17_) (by kernel_rfl) rfl (yy hf1_13_1) (by kernel_rfl)) hS (ze 16 rfl hw (zK rfl rfl (fun w' hw => (xA o v b a'18_ bad'19_ w' (by first | assumption | omega | (simp <;> omega) | (constructor <;> (first | omega | (simp only [zd]; omega) | (simp <;> omega)))) (by first | omega | (simp <;> omega)) (hw.give [2] rfl (by decide)) (hw.rdTo hb [2] rfl)).mono ?_))))
   rintro _ w1 ⟨n20_, a'21_, bad'22_, rfl, hf1_16, hf1_16_1, hO⟩
   refine (?_ : CL _ _ _ _ _ _ (Own w S [Res.row b2 47 [Vn 0, Vn 0, Vi 0, .string (⟨#[]⟩ : ByteArray), Vi 0, Vi 0, Vn 0], Res.vec 5 1 r10_ d11_.length (d11_.map vb), Res.row o 185 [v, Vj a'21_, .bool bad'22_]])) w1 (hw.frameL [2] rfl hO)
   refine zF [] rfl (by decide) (fun w' hw hS => zG 17 rfl (jq (cs := [Vn n1_, Vn n4_, Vj n7_, .string (⟨d11_.toArray⟩ : ByteArray), Vi (yG n14_), Vi (yG n17_), Vn n20_]) (z := [Vn 0, Vn 0, Vi 0, .string (⟨#[]⟩ : ByteArray), Vi 0, Vi 0, Vn 0]) (pl := [(0, 1), (1, 1), (2, 1), (3, 1), (4, 1), (5, 1), (6, 1)]) (by kernel_rfl) (by kernel_rfl)) hS (ze 18 rfl hw (zo 0 rfl rfl rfl (yI rfl) rfl (zF [] rfl (by decide) (fun w' hw hS => zO ?_)))))
   refine (?_ : C _ _ _ _ _ _ _ (Own w S [Res.row b2 47 [Vn n1_, Vn n4_, Vj n7_, .string (⟨d11_.toArray⟩ : ByteArray), Vi (yG n14_), Vi (yG n17_), Vn n20_], Res.vec 5 1 r10_ d11_.length (d11_.map vb), Res.row o 185 [v, Vj a'21_, .bool bad'22_]])) _ hw
   exact zP (jo (cs := [Vn n1_, Vn n4_, Vj n7_, .string (⟨d11_.toArray⟩ : ByteArray), Vi (yG n14_), Vi (yG n17_), Vn n20_]) rfl rfl (by kernel_rfl) (Own.rowCells (i := 0) rfl) (fun w' hw => ⟨n1_, n4_, n7_, (⟨d11_.toArray⟩ : ByteArray), yG n14_, yG n17_, n20_, a'21_, bad'22_, rfl, hf1_1.bind (hf1_3.bind (RdS.bind hf1_5.int (hf1_7.bind (hf1_10.bind (hf1_13.bind (hf1_16.bind (RdS.pure _ hf1_16.le))))))), hf1_7_1, hw.sel [2] rfl (by decide)⟩))
  ·
   refine zT 10 rfl hw (zK rfl rfl (fun w' hw => (xA o v b a'12_ bad'13_ w' (by first | assumption | omega | (simp <;> omega) | (constructor <;> (first | omega | (simp only [zd]; omega) | (simp <;> omega)))) (by first | omega | (simp <;> omega)) (hw.give [1] rfl (by decide)) (hw.rdTo hb [1] rfl)).mono ?_))
   rintro _ w1 ⟨n23_, a'24_, bad'25_, rfl, hf1_10, hf1_10_1, hO⟩
   have hq5 := hf1_10.le
   refine (?_ : CL _ _ _ _ _ _ (Own w S [Res.row b2 47 [Vn 0, Vn 0, Vi 0, .string (⟨#[]⟩ : ByteArray), Vi 0, Vi 0, Vn 0], Res.vec 5 1 r10_ d11_.length (d11_.map vb), Res.row o 185 [v, Vj a'24_, .bool bad'25_]])) w1 (hw.frameL [1] rfl hO)
   refine zF [] rfl (by decide) (fun w' hw hS => zG 11 rfl (kh (c := yG n23_) (by kernel_rfl) rfl (yy hf1_10_1) (by kernel_rfl)) hS (zc 8 13 ?_ ?_))
   ·
    refine zT 8 rfl hw (kO (bs := d11_) (by kernel_rfl) (by kernel_rfl) rfl (fun w' hw' => Vec.sl (Own.holds hw' 1 _ rfl)) rfl (zJ 13 rfl (zK rfl rfl (fun w' hw => (xA o v b a'24_ bad'25_ w' (by first | assumption | omega | (simp <;> omega) | (constructor <;> (first | omega | (simp only [zd]; omega) | (simp <;> omega)))) (by first | omega | (simp <;> omega)) (hw.give [2] rfl (by decide)) (hw.rdTo hb [2] rfl)).mono ?_))))
    rintro _ w1 ⟨n26_, a'27_, bad'28_, rfl, hf1_13, hf1_13_1, hO⟩
    have hq6 := hf1_13.le
    refine (?_ : CL _ _ _ _ _ _ (Own w S [Res.row b2 47 [Vn 0, Vn 0, Vi 0, .string (⟨#[]⟩ : ByteArray), Vi 0, Vi 0, Vn 0], Res.vec 5 1 r10_ d11_.length (d11_.map vb), Res.row o 185 [v, Vj a'27_, .bool bad'28_]])) w1 (hw.frameL [2] rfl hO)
    refine zF [] rfl (by decide) (fun w' hw hS => zG 14 rfl (kh (c := yG n26_) (by kernel_rfl) rfl (yy hf1_13_1) (by kernel_rfl)) hS (ze 16 rfl hw (zK rfl rfl (fun w' hw => (xA o v b a'27_ bad'28_ w' (by first | assumption | omega | (simp <;> omega) | (constructor <;> (first | omega | (simp only [zd]; omega) | (simp <;> omega)))) (by first | omega | (simp <;> omega)) (hw.give [2] rfl (by decide)) (hw.rdTo hb [2] rfl)).mono ?_))))
    rintro _ w1 ⟨n29_, a'30_, bad'31_, rfl, hf1_16, hf1_16_1, hO⟩
    refine (?_ : CL _ _ _ _ _ _ (Own w S [Res.row b2 47 [Vn 0, Vn 0, Vi 0, .string (⟨#[]⟩ : ByteArray), Vi 0, Vi 0, Vn 0], Res.vec 5 1 r10_ d11_.length (d11_.map vb), Res.row o 185 [v, Vj a'30_, .bool bad'31_]])) w1 (hw.frameL [2] rfl hO)
    refine zF [] rfl (by decide) (fun w' hw hS => zG 17 rfl (jq (cs := [Vn n1_, Vn n4_, Vj n7_, .string (⟨d11_.toArray⟩ : ByteArray), Vi (yG n23_), Vi (yG n26_), Vn n29_]) (z := [Vn 0, Vn 0, Vi 0, .string (⟨#[]⟩ : ByteArray), Vi 0, Vi 0, Vn 0]) (pl := [(0, 1), (1, 1), (2, 1), (3, 1), (4, 1), (5, 1), (6, 1)]) (by kernel_rfl) (by kernel_rfl)) hS (ze 18 rfl hw (zo 0 rfl rfl rfl (yI rfl) rfl (zF [] rfl (by decide) (fun w' hw hS => zO ?_)))))
    refine (?_ : C _ _ _ _ _ _ _ (Own w S [Res.row b2 47 [Vn n1_, Vn n4_, Vj n7_, .string (⟨d11_.toArray⟩ : ByteArray), Vi (yG n23_), Vi (yG n26_), Vn n29_], Res.vec 5 1 r10_ d11_.length (d11_.map vb), Res.row o 185 [v, Vj a'30_, .bool bad'31_]])) _ hw
    exact zP (jo (cs := [Vn n1_, Vn n4_, Vj n7_, .string (⟨d11_.toArray⟩ : ByteArray), Vi (yG n23_), Vi (yG n26_), Vn n29_]) rfl rfl (by kernel_rfl) (Own.rowCells (i := 0) rfl) (fun w' hw => ⟨n1_, n4_, n7_, (⟨d11_.toArray⟩ : ByteArray), yG n23_, yG n26_, n29_, a'30_, bad'31_, rfl, hf1_1.bind (hf1_3.bind (RdS.bind hf1_5.int (hf1_7.bind (hf1_10.bind (hf1_13.bind (hf1_16.bind (RdS.pure _ hf1_16.le))))))), hf1_7_1, hw.sel [2] rfl (by decide)⟩))
   ·
    refine zT 13 rfl hw (zK rfl rfl (fun w' hw => (xA o v b a'24_ bad'25_ w' (by first | assumption | omega | (simp <;> omega) | (constructor <;> (first | omega | (simp only [zd]; omega) | (simp <;> omega)))) (by first | omega | (simp <;> omega)) (hw.give [2] rfl (by decide)) (hw.rdTo hb [2] rfl)).mono ?_))
    rintro _ w1 ⟨n32_, a'33_, bad'34_, rfl, hf1_13, hf1_13_1, hO⟩
    have hq6 := hf1_13.le
    refine (?_ : CL _ _ _ _ _ _ (Own w S [Res.row b2 47 [Vn 0, Vn 0, Vi 0, .string (⟨#[]⟩ : ByteArray), Vi 0, Vi 0, Vn 0], Res.vec 5 1 r10_ d11_.length (d11_.map vb), Res.row o 185 [v, Vj a'33_, .bool bad'34_]])) w1 (hw.frameL [2] rfl hO)
    refine zF [] rfl (by decide) (fun w' hw hS => zG 14 rfl (kh (c := yG n32_) (by kernel_rfl) rfl (yy hf1_13_1) (by kernel_rfl)) hS (zc 8 16 ?_ ?_))
    ·
     refine zT 8 rfl hw (kO (bs := d11_) (by kernel_rfl) (by kernel_rfl) rfl (fun w' hw' => Vec.sl (Own.holds hw' 1 _ rfl)) rfl (zJ 16 rfl (zK rfl rfl (fun w' hw => (xA o v b a'33_ bad'34_ w' (by first | assumption | omega | (simp <;> omega) | (constructor <;> (first | omega | (simp only [zd]; omega) | (simp <;> omega)))) (by first | omega | (simp <;> omega)) (hw.give [2] rfl (by decide)) (hw.rdTo hb [2] rfl)).mono ?_))))
     rintro _ w1 ⟨n35_, a'36_, bad'37_, rfl, hf1_16, hf1_16_1, hO⟩
     refine (?_ : CL _ _ _ _ _ _ (Own w S [Res.row b2 47 [Vn 0, Vn 0, Vi 0, .string (⟨#[]⟩ : ByteArray), Vi 0, Vi 0, Vn 0], Res.vec 5 1 r10_ d11_.length (d11_.map vb), Res.row o 185 [v, Vj a'36_, .bool bad'37_]])) w1 (hw.frameL [2] rfl hO)
     refine zF [] rfl (by decide) (fun w' hw hS => zG 17 rfl (jq (cs := [Vn n1_, Vn n4_, Vj n7_, .string (⟨d11_.toArray⟩ : ByteArray), Vi (yG n23_), Vi (yG n32_), Vn n35_]) (z := [Vn 0, Vn 0, Vi 0, .string (⟨#[]⟩ : ByteArray), Vi 0, Vi 0, Vn 0]) (pl := [(0, 1), (1, 1), (2, 1), (3, 1), (4, 1), (5, 1), (6, 1)]) (by kernel_rfl) (by kernel_rfl)) hS (ze 18 rfl hw (zo 0 rfl rfl rfl (yI rfl) rfl (zF [] rfl (by decide) (fun w' hw hS => zO ?_)))))
     refine (?_ : C _ _ _ _ _ _ _ (Own w S [Res.row b2 47 [Vn n1_, Vn n4_, Vj n7_, .string (⟨d11_.toArray⟩ : ByteArray), Vi (yG n23_), Vi (yG n32_), Vn n35_], Res.vec 5 1 r10_ d11_.length (d11_.map vb), Res.row o 185 [v, Vj a'36_, .bool bad'37_]])) _ hw
     exact zP (jo (cs := [Vn n1_, Vn n4_, Vj n7_, .string (⟨d11_.toArray⟩ : ByteArray), Vi (yG n23_), Vi (yG n32_), Vn n35_]) rfl rfl (by kernel_rfl) (Own.rowCells (i := 0) rfl) (fun w' hw => ⟨n1_, n4_, n7_, (⟨d11_.toArray⟩ : ByteArray), yG n23_, yG n32_, n35_, a'36_, bad'37_, rfl, hf1_1.bind (hf1_3.bind (RdS.bind hf1_5.int (hf1_7.bind (hf1_10.bind (hf1_13.bind (hf1_16.bind (RdS.pure _ hf1_16.le))))))), hf1_7_1, hw.sel [2] rfl (by decide)⟩))
    ·
     refine zT 16 rfl hw (zK rfl rfl (fun w' hw => (xA o v b a'33_ bad'34_ w' (by first | assumption | omega | (simp <;> omega) | (constructor <;> (first | omega | (simp only [zd]; omega) | (simp <;> omega)))) (by first | omega | (simp <;> omega)) (hw.give [2] rfl (by decide)) (hw.rdTo hb [2] rfl)).mono ?_))
     rintro _ w1 ⟨n38_, a'39_, bad'40_, rfl, hf1_16, hf1_16_1, hO⟩
     refine (?_ : CL _ _ _ _ _ _ (Own w S [Res.row b2 47 [Vn 0, Vn 0, Vi 0, .string (⟨#[]⟩ : ByteArray), Vi 0, Vi 0, Vn 0], Res.vec 5 1 r10_ d11_.length (d11_.map vb), Res.row o 185 [v, Vj a'39_, .bool bad'40_]])) w1 (hw.frameL [2] rfl hO)
     refine zJ 8 rfl (kO (bs := d11_) (by kernel_rfl) (by kernel_rfl) rfl (fun w' hw' => Vec.sl (Own.holds hw' 1 _ rfl)) rfl (zF [] rfl (by decide) (fun w' hw hS => zG 17 rfl (jq (cs := [Vn n1_, Vn n4_, Vj n7_, .string (⟨d11_.toArray⟩ : ByteArray), Vi (yG n23_), Vi (yG n32_), Vn n38_]) (z := [Vn 0, Vn 0, Vi 0, .string (⟨#[]⟩ : ByteArray), Vi 0, Vi 0, Vn 0]) (pl := [(0, 1), (1, 1), (2, 1), (3, 1), (4, 1), (5, 1), (6, 1)]) (by kernel_rfl) (by kernel_rfl)) hS (ze 18 rfl hw (zo 0 rfl rfl rfl (yI rfl) rfl (zF [] rfl (by decide) (fun w' hw hS => zO ?_)))))))
     refine (?_ : C _ _ _ _ _ _ _ (Own w S [Res.row b2 47 [Vn n1_, Vn n4_, Vj n7_, .string (⟨d11_.toArray⟩ : ByteArray), Vi (yG n23_), Vi (yG n32_), Vn n38_], Res.vec 5 1 r10_ d11_.length (d11_.map vb), Res.row o 185 [v, Vj a'39_, .bool bad'40_]])) _ hw
     exact zP (jo (cs := [Vn n1_, Vn n4_, Vj n7_, .string (⟨d11_.toArray⟩ : ByteArray), Vi (yG n23_), Vi (yG n32_), Vn n38_]) rfl rfl (by kernel_rfl) (Own.rowCells (i := 0) rfl) (fun w' hw => ⟨n1_, n4_, n7_, (⟨d11_.toArray⟩ : ByteArray), yG n23_, yG n32_, n38_, a'39_, bad'40_, rfl, hf1_1.bind (hf1_3.bind (RdS.bind hf1_5.int (hf1_7.bind (hf1_10.bind (hf1_13.bind (hf1_16.bind (RdS.pure _ hf1_16.le))))))), hf1_7_1, hw.sel [2] rfl (by decide)⟩))
theorem zE0 (v : Value) (b : List UInt8) (w : World) (hl : b.length ≤ 1048576) (hb : Rd w [] (Res.sl v b.length (b.map vb))) : Rets Tryz.prog 95 #[.agg #[.func (.func 99) #[] #[], .func (.func 100) #[] #[], .func (.func 103) #[] #[]], v] w fun u_ w' => ∃ (s : Nat) (q : Nat) (op : Int) (k : ByteArray) (am : Int) (sp : Int) (le : Nat) (e : Int), u_ = .tuple #[.agg #[Vn s, Vn q, Vi op, .string k, Vi am, Vi sp, Vn le], Vi e] ∧ ValPost (jT b) (⟨s, q, op, k, am, sp, le⟩ : CmdD) zLU e ∧ Own w [] [] w' := by
  refine zb Tryz.func95 rfl Tryz.ntmps95 (Own.start w) ?_
  refine zB (yb rfl rfl (fun b2 => yL (v := .agg #[Vn 0, Vn 0, Vi 0, .string (⟨#[]⟩ : ByteArray), Vi 0, Vi 0, Vn 0]) (by kernel_rfl) rfl (fun b4 => zD rfl (zA (zB (zC rfl (zCO (cs := [v, Vi 0, .bool false]) (z := [.slice none 0 0, Vi 0, .bool false]) (pl := [(0, 1), (1, 1), (2, 1)]) (by kernel_rfl) ⟨(Sl.cell1 (Rd.φ hb)), trivial⟩ (by kernel_rfl) rfl (yb rfl rfl (fun b10 => zD rfl (zA (zB (zX (o := 2) rfl rfl ?_))))))))))))
  refine zY 0 (v := .func (.func 103) #[] #[]) rfl rfl rfl rfl (zC rfl (y4 (fst := []) (cap := []) rfl (by kernel_rfl) rfl rfl (fun w' hw => (zFy b10 v b 0 false w' (by first | assumption | omega | (simp <;> omega) | (constructor <;> (first | omega | (simp only [zd]; omega) | (simp <;> omega)))) (by first | omega | (simp <;> omega)) (hw.give [2] rfl (by decide)) (hw.rdTo hb [2] rfl)).mono ?_)))
  rintro _ w1 ⟨s1_, q2_, op3_, k4_, am5_, sp6_, le7_, a'8_, bad'9_, rfl, hf2_3, hf2_3_1, hO⟩
  refine (?_ : CL _ _ _ _ _ _ (Own w [] [Res.row b2 121 [.func (.func 99) #[] #[], .func (.func 100) #[] #[], .func (.func 103) #[] #[]], Res.row b4 47 [Vn 0, Vn 0, Vi 0, .string (⟨#[]⟩ : ByteArray), Vi 0, Vi 0, Vn 0], Res.row b10 185 [v, Vj a'8_, .bool bad'9_]])) w1 (hw.frameL [2] rfl hO)
  refine zo 1 rfl rfl rfl (yI rfl) rfl (zA (zL (zB (zC rfl (zr rfl rfl (zX (o := 2) rfl rfl (zY 2 (v := .bool bad'9_) rfl rfl rfl rfl (zC rfl (y6 (q := bad'9_ = true) 7 4 [26, 25, 24, 23, 22, 21, 20] (((a'8_ : Nat) : Int) ≠ ((b.length : Nat) : Int)) rfl rfl (yr _) rfl rfl rfl trivial rfl (fun h3_4 => ?_) (fun g3_12 => ?_))))))))))
  ·
   refine zS rfl (bF h3_4) (zC rfl (zS rfl (bF h3_4) (zr rfl rfl (zS rfl (bF h3_4) (zX (o := 1) rfl rfl (zS rfl (bF h3_4) (zY 2 (v := Vj a'8_) rfl rfl rfl rfl (zS rfl (bF h3_4) (zC rfl (zS rfl (bF h3_4) (yO (pR hb) rfl rfl (zS rfl (bF h3_4) ?_))))))))))))
   refine kU rfl rfl rfl ?_
   exact ya rfl (fun _ hw => hw)
  refine zC rfl (y6 (q := (bad'9_ = true) ∨ (((a'8_ : Nat) : Int) ≠ ((b.length : Nat) : Int))) 5 13 [33, 32, 31, 30, 29] (¬ (({ session := s1_, seq := q2_, op := ((op3_ : Nat) : Int), key := k4_, amount := am5_, span := sp6_, lease := le7_ } : CmdD).ok)) rfl rfl rfl rfl rfl rfl trivial rfl (fun h3_13 => ?_) (fun g3_19 => ?_))
  ·
   refine zS rfl (gF h3_13) (zX (o := 0) rfl rfl (zS rfl (gF h3_13) (zY 0 (v := .func (.func 99) #[] #[]) rfl rfl rfl rfl (zS rfl (gF h3_13) (yd 1 rfl rfl rfl (zS rfl (gF h3_13) (y4 (fst := []) (cap := []) rfl (by kernel_rfl) rfl rfl (fun w' hw => (zCk ({ session := s1_, seq := q2_, op := ((op3_ : Nat) : Int), key := k4_, amount := am5_, span := sp6_, lease := le7_ } : CmdD) w' (by have := hf2_3_1; dsimp only; omega)).mono ?_))))))))
   rintro _ w1 ⟨rfl, hO⟩
   refine (?_ : CL _ _ _ _ _ _ (Own w [] [Res.row b2 121 [.func (.func 99) #[] #[], .func (.func 100) #[] #[], .func (.func 103) #[] #[]], Res.row b4 47 [Vn s1_, Vn q2_, Vj op3_, .string k4_, Vi am5_, Vi sp6_, Vn le7_], Res.row b10 185 [v, Vj a'8_, .bool bad'9_]])) w1 (hw.frame0 hO)
   refine zS rfl (gF h3_13) (kR (q := ({ session := s1_, seq := q2_, op := ((op3_ : Nat) : Int), key := k4_, amount := am5_, span := sp6_, lease := le7_ } : CmdD).ok) rfl rfl ?_)
   exact ya rfl (fun _ hw => hw)
  refine zA (zZ rfl (fun c1 => ?_) (fun c1 => ?_))
  ·
   refine zB (yL (v := .agg #[Vn 0, Vn 0, Vi 0, .string (⟨#[]⟩ : ByteArray), Vi 0, Vi 0, Vn 0]) (by kernel_rfl) rfl (fun b7 => zA (zB (yd 3 rfl rfl rfl (zo 1 rfl rfl rfl (yI rfl) rfl (zD rfl (zA ?_)))))))
   exact zP (yf (cs := [Vn 0, Vn 0, Vi 0, .string (⟨#[]⟩ : ByteArray), Vi 0, Vi 0, Vn 0]) (v := Vi 4) rfl rfl rfl (by kernel_rfl) (Own.rowCells (i := 1) rfl) (fun w' hw => ⟨0, 0, 0, ⟨#[]⟩, 0, 0, 0, 4, rfl, .inr ⟨rfl, zA7 hf2_3 (fun h1 h2 h3 => c1.elim (fun h => h.elim (fun h => (by rw [h1] at h; cases h)) (fun h => h (by omega))) (fun h => h h3)), rfl⟩, hw.drop⟩))
  ·
   refine zM (zB (yd 1 rfl rfl rfl (zo 1 rfl rfl rfl (yI rfl) rfl (zD rfl (zA ?_)))))
   exact zP (yf (cs := [Vn s1_, Vn q2_, Vj op3_, .string k4_, Vi am5_, Vi sp6_, Vn le7_]) (v := Vi 0) rfl rfl rfl (by kernel_rfl) (Own.rowCells (i := 1) rfl) (fun w' hw => ⟨s1_, q2_, ((op3_ : Nat) : Int), k4_, am5_, sp6_, le7_, 0, rfl, .inl ⟨rfl, zBb hf2_3 (by cases h : bad'9_; rfl; exact absurd (.inl (.inl h)) c1) (by have : ¬ (a'8_ : Int) ≠ b.length := fun h => c1 (.inl (.inr h)); omega) (Decidable.not_not.1 fun h => c1 (.inr h))⟩, hw.drop⟩))
theorem zJc (v : Value) (b : List UInt8) (w : World) (hl : b.length ≤ 1048576) (hb : Rd w [] (Res.sl v b.length (b.map vb))) : Rets Tryz.prog 56 #[v] w fun u_ w' => ∃ (s : Nat) (q : Nat) (op : Int) (k : ByteArray) (am : Int) (sp : Int) (le : Nat) (e : Int), u_ = .tuple #[.agg #[Vn s, Vn q, Vi op, .string k, Vi am, Vi sp, Vn le], Vi e] ∧ ValPost (jT b) (⟨s, q, op, k, am, sp, le⟩ : CmdD) zLU e ∧ Own w [] [] w' := by
  refine zb Tryz.func56 rfl Tryz.ntmps56 (Own.start w) ?_
  refine zB (yL (v := .agg #[Vn 0, Vn 0, Vi 0, .string (⟨#[]⟩ : ByteArray), Vi 0, Vi 0, Vn 0]) (by kernel_rfl) rfl (fun b2 => zD rfl (zA (zB (zK rfl rfl (fun w' hw => (zCK w').mono ?_))))))
  rintro _ w1 ⟨rfl, hO⟩
  refine (?_ : CL _ _ _ _ _ _ (Own w [] [Res.row b2 47 [Vn 0, Vn 0, Vi 0, .string (⟨#[]⟩ : ByteArray), Vi 0, Vi 0, Vn 0]])) w1 (hw.frame0 hO)
  refine zC rfl (zK rfl rfl (fun w' hw => (zE0 v b w' (by first | omega | (simp <;> omega)) (hw.rd0 hb)).mono ?_))
  rintro _ w1 ⟨s1_, q2_, op3_, k4_, am5_, sp6_, le7_, e8_, rfl, hf1_2, hO⟩
  refine (?_ : CL _ _ _ _ _ _ (Own w [] [Res.row b2 47 [Vn 0, Vn 0, Vi 0, .string (⟨#[]⟩ : ByteArray), Vi 0, Vi 0, Vn 0]])) w1 (hw.frame0 hO)
  refine zp (vs := [.agg #[Vn s1_, Vn q2_, Vi op3_, .string k4_, Vi am5_, Vi sp6_, Vn le7_], Vi e8_]) rfl rfl rfl (zp (vs := [.agg #[Vn s1_, Vn q2_, Vi op3_, .string k4_, Vi am5_, Vi sp6_, Vn le7_], Vi e8_]) rfl rfl rfl (zo 0 rfl rfl rfl (yI rfl) rfl (zD rfl (zA ?_))))
  exact zP (yf (cs := [Vn s1_, Vn q2_, Vi op3_, .string k4_, Vi am5_, Vi sp6_, Vn le7_]) (v := Vi e8_) rfl rfl rfl (by kernel_rfl) (Own.rowCells (i := 0) rfl) (fun w' hw => ⟨s1_, q2_, op3_, k4_, am5_, sp6_, le7_, e8_, rfl, hf1_2, hw.drop⟩))
theorem zEV {S : List Nat} (o : Nat) (v : Value) (b : List UInt8) (a : Nat) (bad : Bool) (w : World) (hl : zd b.length) (ha : a ≤ b.length) (hin : Own w S [Res.row o 185 [v, Vj a, .bool bad]] w) (hb : Rd w S (Res.sl v b.length (b.map vb))) : Rets Tryz.prog 112 #[.pointer (some ⟨o, 0, none⟩)] w fun u_ w' => ∃ (s : Nat) (q : Nat) (op : Nat) (le : Nat) (am : Int) (sp : Int) (a' : Nat) (bad' : Bool), u_ = .agg #[Vn s, Vn q, Vj op, Vn le, Vi am, Vi sp] ∧ RdS zLH b a bad (⟨s, q, (op : Int), le, am, sp⟩ : RepD) a' bad' ∧ Own w S [Res.row o 185 [v, Vj a', .bool bad']] w' := by
  refine zb Tryz.func112 rfl Tryz.ntmps112 hin ?_
  refine zB (yL (v := .agg #[Vn 0, Vn 0, Vi 0, Vn 0, Vi 0, Vi 0]) (by kernel_rfl) rfl (fun b2 => zA (zB (zC rfl (zK rfl rfl (fun w' hw => (xA o v b a bad w' (by first | assumption | omega | (simp <;> omega) | (constructor <;> (first | omega | (simp only [zd]; omega) | (simp <;> omega)))) (by first | omega | (simp <;> omega)) (hw.give [0] rfl (by decide)) (hw.rdTo hb [0] rfl)).mono ?_))))))
  rintro _ w1 ⟨n1_, a'2_, bad'3_, rfl, hf1_1, hf1_1_1, hO⟩
  have hq1 := hf1_1.le
  refine (?_ : CL _ _ _ _ _ _ (Own w S [Res.row b2 43 [Vn 0, Vn 0, Vi 0, Vn 0, Vi 0, Vi 0], Res.row o 185 [v, Vj a'2_, .bool bad'3_]])) w1 (hw.frameL [0] rfl hO)
  refine zC rfl (zK rfl rfl (fun w' hw => (xA o v b a'2_ bad'3_ w' (by first | assumption | omega | (simp <;> omega) | (constructor <;> (first | omega | (simp only [zd]; omega) | (simp <;> omega)))) (by first | omega | (simp <;> omega)) (hw.give [1] rfl (by decide)) (hw.rdTo hb [1] rfl)).mono ?_))
  rintro _ w1 ⟨n4_, a'5_, bad'6_, rfl, hf1_3, hf1_3_1, hO⟩
  have hq2 := hf1_3.le
  refine (?_ : CL _ _ _ _ _ _ (Own w S [Res.row b2 43 [Vn 0, Vn 0, Vi 0, Vn 0, Vi 0, Vi 0], Res.row o 185 [v, Vj a'5_, .bool bad'6_]])) w1 (hw.frameL [1] rfl hO)
  refine zC rfl (zK rfl rfl (fun w' hw => (zA1 o v b a'5_ bad'6_ 20 w' (by first | assumption | omega | (simp <;> omega) | (constructor <;> (first | omega | (simp only [zd]; omega) | (simp <;> omega)))) (by first | omega | (simp <;> omega)) (by first | omega | (simp <;> omega)) (hw.give [1] rfl (by decide)) (hw.rdTo hb [1] rfl)).mono ?_))
  rintro _ w1 ⟨n7_, a'8_, bad'9_, rfl, hf1_5, hf1_5_1, hO⟩
  have hq3 := hf1_5.le
  refine (?_ : CL _ _ _ _ _ _ (Own w S [Res.row b2 43 [Vn 0, Vn 0, Vi 0, Vn 0, Vi 0, Vi 0], Res.row o 185 [v, Vj a'8_, .bool bad'9_]])) w1 (hw.frameL [1] rfl hO)
  refine zC rfl (zK rfl rfl (fun w' hw => (xA o v b a'8_ bad'9_ w' (by first | assumption | omega | (simp <;> omega) | (constructor <;> (first | omega | (simp only [zd]; omega) | (simp <;> omega)))) (by first | omega | (simp <;> omega)) (hw.give [1] rfl (by decide)) (hw.rdTo hb [1] rfl)).mono ?_))
  rintro _ w1 ⟨n10_, a'11_, bad'12_, rfl, hf1_7, hf1_7_1, hO⟩
  have hq4 := hf1_7.le
  refine (?_ : CL _ _ _ _ _ _ (Own w S [Res.row b2 43 [Vn 0, Vn 0, Vi 0, Vn 0, Vi 0, Vi 0], Res.row o 185 [v, Vj a'11_, .bool bad'12_]])) w1 (hw.frameL [1] rfl hO)
  refine zC rfl (zK rfl rfl (fun w' hw => (xA o v b a'11_ bad'12_ w' (by first | assumption | omega | (simp <;> omega) | (constructor <;> (first | omega | (simp only [zd]; omega) | (simp <;> omega)))) (by first | omega | (simp <;> omega)) (hw.give [1] rfl (by decide)) (hw.rdTo hb [1] rfl)).mono ?_))
  rintro _ w1 ⟨n13_, a'14_, bad'15_, rfl, hf1_9, hf1_9_1, hO⟩
  have hq5 := hf1_9.le
  refine (?_ : CL _ _ _ _ _ _ (Own w S [Res.row b2 43 [Vn 0, Vn 0, Vi 0, Vn 0, Vi 0, Vi 0], Res.row o 185 [v, Vj a'14_, .bool bad'15_]])) w1 (hw.frameL [1] rfl hO)
  refine yv (c := yG n13_) (by kernel_rfl) rfl (yy hf1_9_1) rfl ?_ (by kernel_rfl)
  refine zC rfl (zK rfl rfl (fun w' hw => (xA o v b a'14_ bad'15_ w' (by first | assumption | omega | (simp <;> omega) | (constructor <;> (first | omega | (simp only [zd]; omega) | (simp <;> omega)))) (by first | omega | (simp <;> omega)) (hw.give [1] rfl (by decide)) (hw.rdTo hb [1] rfl)).mono ?_))
  rintro _ w1 ⟨n16_, a'17_, bad'18_, rfl, hf1_12, hf1_12_1, hO⟩
  refine (?_ : CL _ _ _ _ _ _ (Own w S [Res.row b2 43 [Vn 0, Vn 0, Vi 0, Vn 0, Vi 0, Vi 0], Res.row o 185 [v, Vj a'17_, .bool bad'18_]])) w1 (hw.frameL [1] rfl hO)
  refine yv (c := yG n16_) (by kernel_rfl) rfl (yy hf1_12_1) rfl ?_ (by kernel_rfl)
  refine yn (cs := [Vn n1_, Vn n4_, Vj n7_, Vn n10_, Vi (yG n13_), Vi (yG n16_)]) (z := [Vn 0, Vn 0, Vi 0, Vn 0, Vi 0, Vi 0]) (pl := [(0, 1), (1, 1), (2, 1), (3, 1), (4, 1), (5, 1)]) (by kernel_rfl) (by kernel_rfl) rfl (zo 0 rfl rfl rfl (yI rfl) rfl (zA ?_))
  exact zP (jo (cs := [Vn n1_, Vn n4_, Vj n7_, Vn n10_, Vi (yG n13_), Vi (yG n16_)]) rfl rfl (by kernel_rfl) (Own.rowCells (i := 0) rfl) (fun w' hw => ⟨n1_, n4_, n7_, n10_, yG n13_, yG n16_, a'17_, bad'18_, rfl, hf1_1.bind (hf1_3.bind (RdS.bind hf1_5.int (hf1_7.bind (hf1_9.bind (hf1_12.bind (RdS.pure _ hf1_12.le)))))), hw.sel [1] rfl (by decide)⟩))
theorem zFI (v : Value) (b : List UInt8) (w : World) (hl : b.length ≤ 1048576) (hb : Rd w [] (Res.sl v b.length (b.map vb))) : Rets Tryz.prog 75 #[.agg #[.func (.func 110) #[] #[], .func (.func 111) #[] #[], .func (.func 112) #[] #[]], v] w fun u_ w' => ∃ (s : Nat) (q : Nat) (op : Int) (le : Nat) (am : Int) (sp : Int) (e : Int), u_ = .tuple #[.agg #[Vn s, Vn q, Vi op, Vn le, Vi am, Vi sp], Vi e] ∧ ValPost (kj b) (⟨s, q, op, le, am, sp⟩ : RepD) zIh e ∧ Own w [] [] w' := by
  refine zb Tryz.func75 rfl Tryz.ntmps75 (Own.start w) ?_
  refine zB (yb rfl rfl (fun b2 => yL (v := .agg #[Vn 0, Vn 0, Vi 0, Vn 0, Vi 0, Vi 0]) (by kernel_rfl) rfl (fun b4 => zD rfl (zA (zB (zC rfl (zCO (cs := [v, Vi 0, .bool false]) (z := [.slice none 0 0, Vi 0, .bool false]) (pl := [(0, 1), (1, 1), (2, 1)]) (by kernel_rfl) ⟨(Sl.cell1 (Rd.φ hb)), trivial⟩ (by kernel_rfl) rfl (yb rfl rfl (fun b10 => zD rfl (zA (zB (zX (o := 2) rfl rfl ?_))))))))))))
  refine zY 0 (v := .func (.func 112) #[] #[]) rfl rfl rfl rfl (zC rfl (y4 (fst := []) (cap := []) rfl (by kernel_rfl) rfl rfl (fun w' hw => (zEV b10 v b 0 false w' (by first | assumption | omega | (simp <;> omega) | (constructor <;> (first | omega | (simp only [zd]; omega) | (simp <;> omega)))) (by first | omega | (simp <;> omega)) (hw.give [2] rfl (by decide)) (hw.rdTo hb [2] rfl)).mono ?_)))
  rintro _ w1 ⟨s1_, q2_, op3_, le4_, am5_, sp6_, a'7_, bad'8_, rfl, hf2_3, hO⟩
  refine (?_ : CL _ _ _ _ _ _ (Own w [] [Res.row b2 137 [.func (.func 110) #[] #[], .func (.func 111) #[] #[], .func (.func 112) #[] #[]], Res.row b4 43 [Vn 0, Vn 0, Vi 0, Vn 0, Vi 0, Vi 0], Res.row b10 185 [v, Vj a'7_, .bool bad'8_]])) w1 (hw.frameL [2] rfl hO)
  refine zo 1 rfl rfl rfl (yI rfl) rfl (zA (zL (zB (zC rfl (zr rfl rfl (zX (o := 2) rfl rfl (zY 2 (v := .bool bad'8_) rfl rfl rfl rfl (zC rfl (y6 (q := bad'8_ = true) 7 4 [26, 25, 24, 23, 22, 21, 20] (((a'7_ : Nat) : Int) ≠ ((b.length : Nat) : Int)) rfl rfl (yr _) rfl rfl rfl trivial rfl (fun h3_4 => ?_) (fun g3_12 => ?_))))))))))
  ·
   refine zS rfl (bF h3_4) (zC rfl (zS rfl (bF h3_4) (zr rfl rfl (zS rfl (bF h3_4) (zX (o := 1) rfl rfl (zS rfl (bF h3_4) (zY 2 (v := Vj a'7_) rfl rfl rfl rfl (zS rfl (bF h3_4) (zC rfl (zS rfl (bF h3_4) (yO (pR hb) rfl rfl (zS rfl (bF h3_4) ?_))))))))))))
   refine kU rfl rfl rfl ?_
   exact ya rfl (fun _ hw => hw)
  refine zC rfl (y6 (q := (bad'8_ = true) ∨ (((a'7_ : Nat) : Int) ≠ ((b.length : Nat) : Int))) 5 13 [33, 32, 31, 30, 29] (¬ (({ session := s1_, seq := q2_, e := ((op3_ : Nat) : Int), lease := le4_, amount := am5_, until_ := sp6_ } : RepD).ok)) rfl rfl rfl rfl rfl rfl trivial rfl (fun h3_13 => ?_) (fun g3_19 => ?_))
  ·
   refine zS rfl (gF h3_13) (zX (o := 0) rfl rfl (zS rfl (gF h3_13) (zY 0 (v := .func (.func 110) #[] #[]) rfl rfl rfl rfl (zS rfl (gF h3_13) (yd (cs := [Vn s1_, Vn q2_, Vj op3_, Vn le4_, Vi am5_, Vi sp6_]) 1 rfl rfl rfl (zS rfl (gF h3_13) (y4 (fst := []) (cap := []) rfl (by kernel_rfl) rfl rfl (fun w' hw => (zCI ({ session := s1_, seq := q2_, e := ((op3_ : Nat) : Int), lease := le4_, amount := am5_, until_ := sp6_ } : RepD) w').mono ?_))))))))
   rintro _ w1 ⟨rfl, hO⟩
   refine (?_ : CL _ _ _ _ _ _ (Own w [] [Res.row b2 137 [.func (.func 110) #[] #[], .func (.func 111) #[] #[], .func (.func 112) #[] #[]], Res.row b4 43 [Vn s1_, Vn q2_, Vj op3_, Vn le4_, Vi am5_, Vi sp6_], Res.row b10 185 [v, Vj a'7_, .bool bad'8_]])) w1 (hw.frame0 hO)
   refine zS rfl (gF h3_13) (kR (q := ({ session := s1_, seq := q2_, e := ((op3_ : Nat) : Int), lease := le4_, amount := am5_, until_ := sp6_ } : RepD).ok) rfl rfl ?_)
   exact ya rfl (fun _ hw => hw)
  refine zA (zZ rfl (fun c1 => ?_) (fun c1 => ?_))
  ·
   refine zB (yL (v := .agg #[Vn 0, Vn 0, Vi 0, Vn 0, Vi 0, Vi 0]) (by kernel_rfl) rfl (fun b7 => zA (zB (yd (cs := [Vn 0, Vn 0, Vi 0, Vn 0, Vi 0, Vi 0]) 3 rfl rfl rfl (zo 1 rfl rfl rfl (yI rfl) rfl (zD rfl (zA ?_)))))))
   exact zP (yf (cs := [Vn 0, Vn 0, Vi 0, Vn 0, Vi 0, Vi 0]) (v := Vi 4) rfl rfl rfl (by kernel_rfl) (Own.rowCells (i := 1) rfl) (fun w' hw => ⟨0, 0, 0, 0, 0, 0, 4, rfl, .inr ⟨rfl, zA7 hf2_3 (fun h1 h2 h3 => c1.elim (fun h => h.elim (fun h => (by rw [h1] at h; cases h)) (fun h => h (by omega))) (fun h => h h3)), rfl⟩, hw.drop⟩))
  ·
   refine zM (zB (yd (cs := [Vn s1_, Vn q2_, Vj op3_, Vn le4_, Vi am5_, Vi sp6_]) 1 rfl rfl rfl (zo 1 rfl rfl rfl (yI rfl) rfl (zD rfl (zA ?_)))))
   exact zP (yf (cs := [Vn s1_, Vn q2_, Vj op3_, Vn le4_, Vi am5_, Vi sp6_]) (v := Vi 0) rfl rfl rfl (by kernel_rfl) (Own.rowCells (i := 1) rfl) (fun w' hw => ⟨s1_, q2_, ((op3_ : Nat) : Int), le4_, am5_, sp6_, 0, rfl, .inl ⟨rfl, zBb hf2_3 (by cases h : bad'8_; rfl; exact absurd (.inl (.inl h)) c1) (by have : ¬ (a'7_ : Int) ≠ b.length := fun h => c1 (.inl (.inr h)); omega) (Decidable.not_not.1 fun h => c1 (.inr h))⟩, hw.drop⟩))
theorem zJR (v : Value) (b : List UInt8) (w : World) (hl : b.length ≤ 1048576) (hb : Rd w [] (Res.sl v b.length (b.map vb))) : Rets Tryz.prog 43 #[v] w fun u_ w' => ∃ (s : Nat) (q : Nat) (op : Int) (le : Nat) (am : Int) (sp : Int) (e : Int), u_ = .tuple #[.agg #[Vn s, Vn q, Vi op, Vn le, Vi am, Vi sp], Vi e] ∧ ValPost (kj b) (⟨s, q, op, le, am, sp⟩ : RepD) zIh e ∧ Own w [] [] w' := by
  refine zb Tryz.func43 rfl Tryz.ntmps43 (Own.start w) ?_
  refine zB (yL (v := .agg #[Vn 0, Vn 0, Vi 0, Vn 0, Vi 0, Vi 0]) (by kernel_rfl) rfl (fun b2 => zD rfl (zA (zB (zK rfl rfl (fun w' hw => (zDB w').mono ?_))))))
  rintro _ w1 ⟨rfl, hO⟩
  refine (?_ : CL _ _ _ _ _ _ (Own w [] [Res.row b2 43 [Vn 0, Vn 0, Vi 0, Vn 0, Vi 0, Vi 0]])) w1 (hw.frame0 hO)
  refine zC rfl (zK rfl rfl (fun w' hw => (zFI v b w' (by first | omega | (simp <;> omega)) (hw.rd0 hb)).mono ?_))
  rintro _ w1 ⟨s1_, q2_, op3_, le4_, am5_, sp6_, e7_, rfl, hf1_2, hO⟩
  refine (?_ : CL _ _ _ _ _ _ (Own w [] [Res.row b2 43 [Vn 0, Vn 0, Vi 0, Vn 0, Vi 0, Vi 0]])) w1 (hw.frame0 hO)
  refine zp (vs := [.agg #[Vn s1_, Vn q2_, Vi op3_, Vn le4_, Vi am5_, Vi sp6_], Vi e7_]) rfl rfl rfl (zp (vs := [.agg #[Vn s1_, Vn q2_, Vi op3_, Vn le4_, Vi am5_, Vi sp6_], Vi e7_]) rfl rfl rfl (zo 0 rfl rfl rfl (yI rfl) rfl (zD rfl (zA ?_))))
  exact zP (yf (cs := [Vn s1_, Vn q2_, Vi op3_, Vn le4_, Vi am5_, Vi sp6_]) (v := Vi e7_) rfl rfl rfl (by kernel_rfl) (Own.rowCells (i := 0) rfl) (fun w' hw => ⟨s1_, q2_, op3_, le4_, am5_, sp6_, e7_, rfl, hf1_2, hw.drop⟩))
end Go.Proofs.YthincafbmpialaaGreat
