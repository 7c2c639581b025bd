import Derived.Test.YthincafbmpialaaGreatFwN
set_option linter.unusedSectionVars false
set_option linter.unusedSimpArgs false
set_option linter.unusedVariables false
set_option maxRecDepth 10000
namespace Go.Proofs.YthincafbmpialaaGreat
open Go Go.Sc Go.Proofs
def yS (n : Nat) : Int := if n ≤ 9223372036854775807 then n else (n : Int) - 18446744073709551616
theorem xB {n : Nat} (h : n < 18446744073709551616) : IntKind.i64.wrap (n : Int) = yS n := by
  rw [zL1 (by omega)]; unfold yS; split <;> split <;> omega
theorem zAi {a : Int} (h : xM a) : yS (u64 a) = a := by unfold xM at h; unfold yS u64; split <;> omega
theorem zAc {n : Nat} (h : n < 18446744073709551616) : u64 (yS n) = n := by unfold yS u64; split <;> omega
theorem RdS.int {most : Nat} {b : List UInt8} {a a1 n : Nat} {bad bad1 : Bool} (h : RdS (ko most) b a bad n a1 bad1) : RdS (zDy most) b a bad (n : Int) a1 bad1 := RdS.map (fun n : Nat => (n : Int)) h
structure CmdD where
  session : Nat
  seq : Nat
  op : Int
  key : ByteArray
  amount : Int
  span : Int
  lease : Nat
  deriving DecidableEq
structure CmdD.wf (x : CmdD) : Prop where
  session : x.session < 18446744073709551616
  seq : x.seq < 18446744073709551616
  key : x.key.size ≤ 1048576
  amount : xM x.amount
  span : xM x.span
  lease : x.lease < 18446744073709551616
def CmdD.cells (x : CmdD) : List Value := [.int .u64 x.session, .int .u64 x.seq, .int .i64 x.op, .string x.key, .int .i64 x.amount, .int .i64 x.span, .int .u64 x.lease]
def CmdD.ok (x : CmdD) : Prop := (1 ≤ x.op ∧ x.op ≤ 5) ∧ x.key.size ≤ 64
instance (x : CmdD) : Decidable x.ok := inferInstanceAs (Decidable ((_ ∧ _) ∧ _))
def zBE (s : ByteArray) : List UInt8 := s.data.toList
theorem kK (s : ByteArray) : (zBE s).length = s.size := by unfold zBE; rw [Array.length_toList]; rfl
def CmdD.enc (x : CmdD) : List UInt8 := y7 [x.session, x.seq, u64 x.op] ++ dat (zBE x.key) ++ y7 [u64 x.amount, u64 x.span, x.lease]
structure RepD where
  session : Nat
  seq : Nat
  e : Int
  lease : Nat
  amount : Int
  until_ : Int
  deriving DecidableEq
structure RepD.wf (r : RepD) : Prop where
  session : r.session < 18446744073709551616
  seq : r.seq < 18446744073709551616
  lease : r.lease < 18446744073709551616
  amount : xM r.amount
  until_ : xM r.until_
def RepD.cells (r : RepD) : List Value := [.int .u64 r.session, .int .u64 r.seq, .int .i64 r.e, .int .u64 r.lease, .int .i64 r.amount, .int .i64 r.until_]
def RepD.ok (r : RepD) : Prop := 0 ≤ r.e ∧ r.e ≤ 20
instance (r : RepD) : Decidable r.ok := inferInstanceAs (Decidable (_ ∧ _))
def RepD.enc (r : RepD) : List UInt8 := y7 [r.session, r.seq, u64 r.e, r.lease, u64 r.amount, u64 r.until_]
theorem zDA (x : CmdD) (w : World) (hx : x.key.size ≤ 1048576) : Rets Tryz.prog 99 #[.agg (CmdD.cells x).toArray] w fun u_ w' => u_ = .bool (decide x.ok) ∧ Own w [] [] w' := by
  refine zW Tryz.func99 rfl Tryz.ntmps99 (Own.start w) ?_
  refine zB (yh rfl rfl (fun b1 => zD rfl (zA (zB (zQ (o := 2) rfl rfl (zT 0 (v := Vi x.op) rfl rfl rfl rfl (xC rfl rfl rfl (zC rfl (yR (q := 1 ≤ x.op) 3 3 [9, 8, 7] (x.op ≤ 5) rfl rfl rfl rfl rfl rfl trivial rfl (fun h1_3 => ?_) (fun g1_7 => ?_))))))))))
  ·
   refine zP rfl (gT h1_3) (zQ (o := 2) rfl rfl (zP rfl (gT h1_3) (zT 0 (v := Vi x.op) rfl rfl rfl rfl (zP rfl (gT h1_3) (kd rfl rfl rfl ?_)))))
   exact yP rfl (fun _ hw => hw)
  refine zC rfl (yR (q := (1 ≤ x.op) ∧ (x.op ≤ 5)) 4 8 [15, 14, 13, 12] (((x.key.size : Nat) : Int) ≤ 64) rfl rfl rfl rfl rfl rfl trivial rfl (fun h1_8 => ?_) (fun g1_13 => ?_))
  ·
   refine zP rfl (gT h1_8) (zQ (o := 3) rfl rfl (zP rfl (gT h1_8) (zT 0 (v := .string x.key) rfl rfl rfl rfl (zP rfl (gT h1_8) (zCI (by kernel_rfl) rfl rfl (zP rfl (gT h1_8) (kd rfl rfl rfl ?_)))))))
   exact yP rfl (fun _ hw => hw)
  refine zD rfl (zA ?_)
  exact zM (z8 (v := .bool (decide (((1 ≤ x.op) ∧ (x.op ≤ 5)) ∧ (((x.key.size : Nat) : Int) ≤ 64)))) rfl rfl (fun w' hw => ⟨(by congr 1; exact decide_eq_decide.2 (by unfold CmdD.ok; omega)), hw.drop⟩))
theorem zFl {S : List Nat} (o : Nat) (sl : Value) (bs : List UInt8) (x : CmdD) (w : World) (hx : x.wf) (hb : bs.length ≤ 1000000000) (hin : Own w S [Res.bv o xk sl bs] w) : Rets Tryz.prog 100 #[.pointer (some ⟨o, 0, none⟩), .agg (CmdD.cells x).toArray] w fun u_ w' => ∃ (sl' : Value), u_ = .tuple #[] ∧ Own w S [Res.bv o xk sl' (bs ++ x.enc)] w' := by
  have hk : x.key.data.toList.length = x.key.size := kK x.key
  have hk2 := hx.key
  have hd := zA9 x.key.data.toList (by omega)
  have hn1 := xw (ns := [x.session, x.seq, u64 x.op]) (by have := hx.session; have := hx.seq; simp [y3, *])
  simp only [List.length_cons, List.length_nil] at hn1
  refine zW Tryz.func100 rfl Tryz.ntmps100 hin ?_
  refine zB (yh rfl rfl (fun b3 => zA (zB (zC rfl (zQ (o := 0) rfl rfl (zT 1 (v := Vn x.session) rfl rfl rfl rfl (zQ (o := 1) rfl rfl (zT 1 (v := Vn x.seq) rfl rfl rfl rfl (zQ (o := 2) rfl rfl (zT 1 (v := Vi x.op) rfl rfl rfl rfl (yy (by kernel_rfl) rfl (xZ _) rfl ?_ (by kernel_rfl))))))))))))
  refine ym (e := 28) (sz := 1) (vs := [Vn x.session, Vn x.seq, Vn (u64 x.op)]) (by kernel_rfl) rfl rfl (by simp [Value.cells]) (by decide) rfl (fun b12 => zJ rfl rfl (fun w' hw => (zD4 o _ _ (.slice (some ⟨b12, 0, none⟩) 3 3) [x.session, x.seq, u64 x.op] w' (by have := hx.session; have := hx.seq; simp [y3, *]) (by first | omega | (simp <;> omega) | (constructor <;> (first | omega | (simp <;> omega)))) (hw.give [0] rfl (by decide)) (hw.rdVec 2 rfl [0] rfl rfl)).mono ?_))
  rintro _ w1 ⟨sl'1_, rfl, hO⟩
  refine (?_ : CL _ _ _ _ _ _ (Own w S [Res.row b3 47 (CmdD.cells x), Res.vec 28 1 (.slice (some ⟨b12, 0, none⟩) 3 3) [x.session, x.seq, u64 x.op].length ([x.session, x.seq, u64 x.op].flatMap U1), Res.bv o xk sl'1_ (bs ++ y7 [x.session, x.seq, u64 x.op])])) w1 (hw.frameL [0] rfl hO)
  refine zA (zB (zC rfl (zQ (o := 3) rfl rfl (zT 0 (v := .string x.key) rfl rfl rfl rfl (zJZ (by kernel_rfl) (by kernel_rfl) rfl (by rw [xI]; omega) rfl (fun v17 => ?_))))))
  refine yW (fun w' hw => Sl.cell1 (Own.holds hw 3 _ rfl)) (fun hc1_ => ?_)
  refine zCk (e := 52) (vs := [v17]) (by kernel_rfl) rfl rfl (zp hc1_ yv) (by decide) rfl (fun b18 => zJ rfl rfl (fun w' hw => (zHs o sl'1_ (bs ++ y7 [x.session, x.seq, u64 x.op]) (.slice (some ⟨b18, 0, none⟩) 1 1) [(v17, x.key.data.toList)] w' (by simp [yL]; omega) (by show 1 ≤ _; omega) (hw.give [2] rfl (by decide)) (hw.rdVec 4 rfl [2] rfl rfl) (all_cons (hw.rdRes 3 rfl [2] rfl rfl) (fun p hp => by cases hp))).mono ?_))
  rintro _ w1 ⟨sl'2_, rfl, hO⟩
  refine (?_ : CL _ _ _ _ _ _ (Own w S [Res.row b3 47 (CmdD.cells x), Res.vec 28 1 (.slice (some ⟨b12, 0, none⟩) 3 3) [x.session, x.seq, u64 x.op].length ([x.session, x.seq, u64 x.op].flatMap U1), Res.sl v17 x.key.data.toList.length (x.key.data.toList.map vb), Res.vec 52 1 (.slice (some ⟨b18, 0, none⟩) 1 1) [(v17, x.key.data.toList)].length ([(v17, x.key.data.toList)].flatMap pv), Res.bv o xk sl'2_ ((bs ++ y7 [x.session, x.seq, u64 x.op]) ++ yL [(v17, x.key.data.toList)])])) w1 (hw.frameL [2] rfl hO)
  refine zA (zd (zC rfl (zQ (o := 4) rfl rfl (zT 0 (v := Vi x.amount) rfl rfl rfl rfl (yy (by kernel_rfl) rfl (xZ _) rfl ?_ (by kernel_rfl))))))
  refine zQ (o := 5) rfl rfl (zT 0 (v := Vi x.span) rfl rfl rfl rfl (yy (by kernel_rfl) rfl (xZ _) rfl ?_ (by kernel_rfl)))
  refine zQ (o := 6) rfl rfl (zT 0 (v := Vn x.lease) rfl rfl rfl rfl (ym (e := 28) (sz := 1) (vs := [Vn (u64 x.amount), Vn (u64 x.span), Vn x.lease]) (by kernel_rfl) rfl rfl (by simp [Value.cells]) (by decide) rfl (fun b29 => zJ rfl rfl (fun w' hw => (zD4 o sl'2_ ((bs ++ y7 [x.session, x.seq, u64 x.op]) ++ yL [(v17, x.key.data.toList)]) (.slice (some ⟨b29, 0, none⟩) 3 3) [u64 x.amount, u64 x.span, x.lease] w' (by have := hx.lease; simp [y3, *]) (by simp [yL]; omega) (hw.give [4] rfl (by decide)) (hw.rdVec 5 rfl [4] rfl rfl)).mono ?_))))
  rintro _ w1 ⟨sl'3_, rfl, hO⟩
  refine (?_ : CL _ _ _ _ _ _ (Own w S [Res.row b3 47 (CmdD.cells x), Res.vec 28 1 (.slice (some ⟨b12, 0, none⟩) 3 3) [x.session, x.seq, u64 x.op].length ([x.session, x.seq, u64 x.op].flatMap U1), Res.sl v17 x.key.data.toList.length (x.key.data.toList.map vb), Res.vec 52 1 (.slice (some ⟨b18, 0, none⟩) 1 1) [(v17, x.key.data.toList)].length ([(v17, x.key.data.toList)].flatMap pv), Res.vec 28 1 (.slice (some ⟨b29, 0, none⟩) 3 3) [u64 x.amount, u64 x.span, x.lease].length ([u64 x.amount, u64 x.span, x.lease].flatMap U1), Res.bv o xk sl'3_ (((bs ++ y7 [x.session, x.seq, u64 x.op]) ++ yL [(v17, x.key.data.toList)]) ++ y7 [u64 x.amount, u64 x.span, x.lease])])) w1 (hw.frameL [4] rfl hO)
  exact zj (js rfl (fun w' hw => ⟨sl'3_, rfl, by have h := hw.one 5 rfl; simpa [CmdD.enc, yL, zBE] using h⟩))
theorem zCh (w : World) : Rets Tryz.prog 60 #[] w fun u_ w' => u_ = .agg #[.func (.func 99) #[] #[], .func (.func 100) #[] #[], .func (.func 103) #[] #[]] ∧ Own w [] [] w' := by
  refine zW Tryz.func60 rfl Tryz.ntmps60 (Own.start w) ?_
  refine zB (yF (v := .agg #[.nilFunc, .nilFunc, .nilFunc]) (by kernel_rfl) rfl (fun b0 => zA (zB (yT (cs := [.func (.func 99) #[] #[], .func (.func 100) #[] #[], .func (.func 103) #[] #[]]) (z := [.nilFunc, .nilFunc, .nilFunc]) (pl := [(0, 1), (1, 1), (2, 1)]) (by kernel_rfl) (by kernel_rfl) rfl (zi 0 rfl rfl rfl (z7 rfl) rfl (zA ?_))))))
  exact zM (jw (cs := [.func (.func 99) #[] #[], .func (.func 100) #[] #[], .func (.func 103) #[] #[]]) rfl rfl (by kernel_rfl) (Own.rowCells (i := 0) rfl) (fun w' hw => ⟨rfl, hw.drop⟩))
theorem zF4 (x : CmdD) (w : World) (hx : x.wf) : Rets Tryz.prog 61 #[.agg #[.func (.func 99) #[] #[], .func (.func 100) #[] #[], .func (.func 103) #[] #[]], .agg (CmdD.cells x).toArray] w fun u_ w' => ∃ (r : Value), u_ = .tuple #[r, Vi (y0 x.ok)] ∧ Own w [] [Res.vec 5 1 r (if x.ok then x.enc else []).length ((if x.ok then x.enc else []).map vb)] w' := by
  have hk := hx.key
  refine zW Tryz.func61 rfl Tryz.ntmps61 (Own.start w) ?_
  refine zB (yh rfl rfl (fun b2 => yh rfl rfl (fun b3 => zD rfl (zD rfl (zA (zL (zB (zQ (o := 0) rfl rfl (zT 0 (v := .func (.func 99) #[] #[]) rfl rfl rfl rfl (yO (cs := (CmdD.cells x)) 1 rfl rfl rfl (xJ (fst := []) (cap := []) rfl (by kernel_rfl) rfl rfl (fun w' hw => (zDA x w' (by first | omega | (simp <;> omega))).mono ?_))))))))))))
  rintro _ w1 ⟨rfl, hO⟩
  refine (?_ : CL _ _ _ _ _ _ (Own w [] [Res.row b2 121 [.func (.func 99) #[] #[], .func (.func 100) #[] #[], .func (.func 103) #[] #[]], Res.row b3 47 (CmdD.cells x)])) w1 (hw.frame0 hO)
  refine xp (q := x.ok) rfl rfl (zA (zU rfl (fun c1 => ?_) (fun c1 => ?_)))
  ·
   refine zB (zD rfl (zD rfl (zA ?_)))
   exact zM (xK (v := .slice none 0 0) (v' := Vi 2) rfl rfl rfl (fun w' hw => ⟨.slice none 0 0, (by rw [zDw c1]), by rw [if_neg c1]; exact (yN hw T8 1).one 2 rfl⟩))
  ·
   refine zK (zB (yT (cs := [.slice none 0 0]) (z := [.slice none 0 0]) (pl := [(0, 1)]) (by kernel_rfl) (by kernel_rfl) rfl (yh rfl rfl (fun b13 => zD rfl (zA (zB (zQ (o := 1) rfl rfl (zT 0 (v := .func (.func 100) #[] #[]) rfl rfl rfl rfl (zC rfl (yO (cs := (CmdD.cells x)) 1 rfl rfl rfl ?_))))))))))
   refine zBJ [Res.row b2 121 [.func (.func 99) #[] #[], .func (.func 100) #[] #[], .func (.func 103) #[] #[]], Res.row b3 47 (CmdD.cells x), Res.bv b13 xk (.slice none 0 0) ([] : List UInt8)] (fun w' hw => (yN hw T8 1).joinBv (i := 2) (j := 3) (by decide) rfl rfl) ?_
   refine xJ (fst := []) (cap := []) rfl (by kernel_rfl) rfl rfl (fun w' hw => (zFl b13 (.slice none 0 0) ([] : List UInt8) x w' ‹_› (by first | omega | (simp <;> omega) | (constructor <;> (first | omega | (simp <;> omega)))) (hw.give [2] rfl (by decide))).mono ?_)
   rintro _ w1 ⟨sl'1_, rfl, hO⟩
   refine (?_ : CL _ _ _ _ _ _ (Own w [] [Res.row b2 121 [.func (.func 99) #[] #[], .func (.func 100) #[] #[], .func (.func 103) #[] #[]], Res.row b3 47 (CmdD.cells x), Res.bv b13 xk sl'1_ (([] : List UInt8) ++ x.enc)])) w1 (hw.frameL [2] rfl hO)
   refine zA (zB (zC rfl (zm rfl rfl (zQ (o := 0) rfl rfl ?_))))
   refine zBJ [Res.row b2 121 [.func (.func 99) #[] #[], .func (.func 100) #[] #[], .func (.func 103) #[] #[]], Res.row b3 47 (CmdD.cells x), Res.row b13 xk [sl'1_], Res.vec 5 1 sl'1_ (([] : List UInt8) ++ x.enc).length ((([] : List UInt8) ++ x.enc).map vb)] (fun w' hw => hw.splitBv (i := 2) (o := b13) (T := xk) (v := sl'1_) (bs := (([] : List UInt8) ++ x.enc)) rfl) ?_
   refine zT 2 (v := sl'1_) rfl rfl rfl rfl (zD rfl (zD rfl (zA ?_)))
   exact zM (xK (v := sl'1_) (v' := Vi 0) rfl rfl rfl (fun w' hw => ⟨sl'1_, (by rw [zER (Decidable.not_not.1 c1)]), by rw [if_pos (Decidable.not_not.1 c1)]; exact hw.one 3 rfl⟩))
theorem zEa (x : CmdD) (w : World) (hx : x.wf) : Rets Tryz.prog 25 #[.agg (CmdD.cells x).toArray] w fun u_ w' => ∃ (r : Value), u_ = .tuple #[r, Vi (y0 x.ok)] ∧ Own w [] [Res.vec 5 1 r (if x.ok then x.enc else []).length ((if x.ok then x.enc else []).map vb)] w' := by
  refine zW Tryz.func25 rfl Tryz.ntmps25 (Own.start w) ?_
  refine zB (yh rfl rfl (fun b1 => zD rfl (zD rfl (zA (zL (zh [0] rfl (by decide) (by kernel_rfl) (fun w' hw hS => zF 1 rfl (kQ (cs := (CmdD.cells x)) 0 rfl rfl) hS (zZ 0 rfl hw (zJ rfl rfl (fun w' hw => (zCh w').mono ?_))))))))))
  rintro _ w1 ⟨rfl, hO⟩
  refine (?_ : CL _ _ _ _ _ _ (Own w [] [Res.row b1 47 (CmdD.cells x)])) w1 (hw.frame0 hO)
  refine zG [0] rfl (by decide) (fun w' hw hS => zZ 2 rfl hw (zJ rfl rfl (fun w' hw => (zF4 x w' ‹_›).mono ?_)))
  rintro _ w1 ⟨r1_, rfl, hO⟩
  refine (?_ : CL _ _ _ _ _ _ (Own w [] [Res.row b1 47 (CmdD.cells x), Res.vec 5 1 r1_ (if x.ok then x.enc else []).length ((if x.ok then x.enc else []).map vb)])) w1 (hw.frame0 hO)
  refine zG [0] rfl (by decide) (fun w' hw hS => zF 3 rfl (yd (vs := [r1_, Vi (y0 x.ok)]) rfl rfl) hS (zF 4 rfl (yd (vs := [r1_, Vi (y0 x.ok)]) rfl rfl) hS (zF 5 rfl (yz) hS (zF 6 rfl (yz) hS (zR ?_)))))
  refine (?_ : C _ _ _ _ _ _ _ (Own w [] [Res.row b1 47 (CmdD.cells x), Res.vec 5 1 r1_ (if x.ok then x.enc else []).length ((if x.ok then x.enc else []).map vb)])) _ hw
  exact zM (xK (v := r1_) (v' := Vi (y0 x.ok)) rfl rfl rfl (fun w' hw => ⟨r1_, rfl, hw.sel [1] rfl (by decide)⟩))
theorem zCi (x : RepD) (w : World) : Rets Tryz.prog 110 #[.agg (RepD.cells x).toArray] w fun u_ w' => u_ = .bool (decide x.ok) ∧ Own w [] [] w' := by
  refine zW Tryz.func110 rfl Tryz.ntmps110 (Own.start w) ?_
  refine zB (yh rfl rfl (fun b1 => zD rfl (zA (zB (zQ (o := 2) rfl rfl (zT 0 (v := Vi x.e) rfl rfl rfl rfl (xC rfl rfl rfl (zC rfl (yR (q := 0 ≤ x.e) 3 3 [9, 8, 7] (x.e ≤ 20) rfl rfl rfl rfl rfl rfl trivial rfl (fun h1_3 => ?_) (fun g1_7 => ?_))))))))))
  ·
   refine zP rfl (gT h1_3) (zQ (o := 2) rfl rfl (zP rfl (gT h1_3) (zT 0 (v := Vi x.e) rfl rfl rfl rfl (zP rfl (gT h1_3) (kd rfl rfl rfl ?_)))))
   exact yP rfl (fun _ hw => hw)
  refine zD rfl (zA ?_)
  exact zM (z8 (v := .bool (decide ((0 ≤ x.e) ∧ (x.e ≤ 20)))) rfl rfl (fun w' hw => ⟨rfl, hw.drop⟩))
theorem zF2 {S : List Nat} (o : Nat) (sl : Value) (bs : List UInt8) (x : RepD) (w : World) (hx : x.wf) (hb : bs.length ≤ 1000000000) (hin : Own w S [Res.bv o xk sl bs] w) : Rets Tryz.prog 111 #[.pointer (some ⟨o, 0, none⟩), .agg (RepD.cells x).toArray] w fun u_ w' => ∃ (sl' : Value), u_ = .tuple #[] ∧ Own w S [Res.bv o xk sl' (bs ++ x.enc)] w' := by
  refine zW Tryz.func111 rfl Tryz.ntmps111 hin ?_
  refine zB (yh rfl rfl (fun b3 => zA (zd (zC rfl (zQ (o := 0) rfl rfl (zT 1 (v := Vn x.session) rfl rfl rfl rfl (zQ (o := 1) rfl rfl (zT 1 (v := Vn x.seq) rfl rfl rfl rfl (zQ (o := 2) rfl rfl (zT 1 (v := Vi x.e) rfl rfl rfl rfl (yy (by kernel_rfl) rfl (xZ _) rfl ?_ (by kernel_rfl))))))))))))
  refine zQ (o := 3) rfl rfl (zT 1 (v := Vn x.lease) rfl rfl rfl rfl (zQ (o := 4) rfl rfl (zT 1 (v := Vi x.amount) rfl rfl rfl rfl (yy (by kernel_rfl) rfl (xZ _) rfl ?_ (by kernel_rfl)))))
  refine zQ (o := 5) rfl rfl (zT 1 (v := Vi x.until_) rfl rfl rfl rfl (yy (by kernel_rfl) rfl (xZ _) rfl ?_ (by kernel_rfl)))
  refine ym (e := 28) (sz := 1) (vs := [Vn x.session, Vn x.seq, Vn (u64 x.e), Vn x.lease, Vn (u64 x.amount), Vn (u64 x.until_)]) (by kernel_rfl) rfl rfl (by simp [Value.cells]) (by decide) rfl (fun b20 => zJ rfl rfl (fun w' hw => (zD4 o _ _ (.slice (some ⟨b20, 0, none⟩) 6 6) [x.session, x.seq, u64 x.e, x.lease, u64 x.amount, u64 x.until_] w' (by have := hx.session; have := hx.seq; have := hx.lease; simp [y3, *]) (by first | omega | (simp <;> omega) | (constructor <;> (first | omega | (simp <;> omega)))) (hw.give [0] rfl (by decide)) (hw.rdVec 2 rfl [0] rfl rfl)).mono ?_))
  rintro _ w1 ⟨sl'1_, rfl, hO⟩
  refine (?_ : CL _ _ _ _ _ _ (Own w S [Res.row b3 43 (RepD.cells x), Res.vec 28 1 (.slice (some ⟨b20, 0, none⟩) 6 6) [x.session, x.seq, u64 x.e, x.lease, u64 x.amount, u64 x.until_].length ([x.session, x.seq, u64 x.e, x.lease, u64 x.amount, u64 x.until_].flatMap U1), Res.bv o xk sl'1_ (bs ++ y7 [x.session, x.seq, u64 x.e, x.lease, u64 x.amount, u64 x.until_])])) w1 (hw.frameL [0] rfl hO)
  exact zj (js rfl (fun w' hw => ⟨sl'1_, rfl, hw.sel [2] rfl (by decide)⟩))
theorem zDf (w : World) : Rets Tryz.prog 74 #[] w fun u_ w' => u_ = .agg #[.func (.func 110) #[] #[], .func (.func 111) #[] #[], .func (.func 112) #[] #[]] ∧ Own w [] [] w' := by
  refine zW Tryz.func74 rfl Tryz.ntmps74 (Own.start w) ?_
  refine zB (yF (v := .agg #[.nilFunc, .nilFunc, .nilFunc]) (by kernel_rfl) rfl (fun b0 => zA (zB (yT (cs := [.func (.func 110) #[] #[], .func (.func 111) #[] #[], .func (.func 112) #[] #[]]) (z := [.nilFunc, .nilFunc, .nilFunc]) (pl := [(0, 1), (1, 1), (2, 1)]) (by kernel_rfl) (by kernel_rfl) rfl (zi 0 rfl rfl rfl (z7 rfl) rfl (zA ?_))))))
  exact zM (jw (cs := [.func (.func 110) #[] #[], .func (.func 111) #[] #[], .func (.func 112) #[] #[]]) rfl rfl (by kernel_rfl) (Own.rowCells (i := 0) rfl) (fun w' hw => ⟨rfl, hw.drop⟩))
theorem zF7 (x : RepD) (w : World) (hx : x.wf) : Rets Tryz.prog 91 #[.agg #[.func (.func 110) #[] #[], .func (.func 111) #[] #[], .func (.func 112) #[] #[]], .agg (RepD.cells x).toArray] w fun u_ w' => ∃ (r : Value), u_ = .tuple #[r, Vi (y0 x.ok)] ∧ Own w [] [Res.vec 5 1 r (if x.ok then x.enc else []).length ((if x.ok then x.enc else []).map vb)] w' := by
  refine zW Tryz.func91 rfl Tryz.ntmps91 (Own.start w) ?_
  refine zB (yh rfl rfl (fun b2 => yh rfl rfl (fun b3 => zD rfl (zD rfl (zA (zL (zB (zQ (o := 0) rfl rfl (zT 0 (v := .func (.func 110) #[] #[]) rfl rfl rfl rfl (yO (cs := (RepD.cells x)) 1 rfl rfl rfl (xJ (fst := []) (cap := []) rfl (by kernel_rfl) rfl rfl (fun w' hw => (zCi x w').mono ?_))))))))))))
  rintro _ w1 ⟨rfl, hO⟩
  refine (?_ : CL _ _ _ _ _ _ (Own w [] [Res.row b2 137 [.func (.func 110) #[] #[], .func (.func 111) #[] #[], .func (.func 112) #[] #[]], Res.row b3 43 (RepD.cells x)])) w1 (hw.frame0 hO)
  refine xp (q := x.ok) rfl rfl (zA (zU rfl (fun c1 => ?_) (fun c1 => ?_)))
  ·
   refine zB (zD rfl (zD rfl (zA ?_)))
   exact zM (xK (v := .slice none 0 0) (v' := Vi 2) rfl rfl rfl (fun w' hw => ⟨.slice none 0 0, (by rw [zDw c1]), by rw [if_neg c1]; exact (yN hw T8 1).one 2 rfl⟩))
  ·
   refine zK (zB (yT (cs := [.slice none 0 0]) (z := [.slice none 0 0]) (pl := [(0, 1)]) (by kernel_rfl) (by kernel_rfl) rfl (yh rfl rfl (fun b13 => zD rfl (zA (zB (zQ (o := 1) rfl rfl (zT 0 (v := .func (.func 111) #[] #[]) rfl rfl rfl rfl (zC rfl (yO (cs := (RepD.cells x)) 1 rfl rfl rfl ?_))))))))))
   refine zBJ [Res.row b2 137 [.func (.func 110) #[] #[], .func (.func 111) #[] #[], .func (.func 112) #[] #[]], Res.row b3 43 (RepD.cells x), Res.bv b13 xk (.slice none 0 0) ([] : List UInt8)] (fun w' hw => (yN hw T8 1).joinBv (i := 2) (j := 3) (by decide) rfl rfl) ?_
   refine xJ (fst := []) (cap := []) rfl (by kernel_rfl) rfl rfl (fun w' hw => (zF2 b13 (.slice none 0 0) ([] : List UInt8) x w' ‹_› (by first | omega | (simp <;> omega) | (constructor <;> (first | omega | (simp <;> omega)))) (hw.give [2] rfl (by decide))).mono ?_)
   rintro _ w1 ⟨sl'1_, rfl, hO⟩
   refine (?_ : CL _ _ _ _ _ _ (Own w [] [Res.row b2 137 [.func (.func 110) #[] #[], .func (.func 111) #[] #[], .func (.func 112) #[] #[]], Res.row b3 43 (RepD.cells x), Res.bv b13 xk sl'1_ (([] : List UInt8) ++ x.enc)])) w1 (hw.frameL [2] rfl hO)
   refine zA (zB (zC rfl (zm rfl rfl (zQ (o := 0) rfl rfl ?_))))
   refine zBJ [Res.row b2 137 [.func (.func 110) #[] #[], .func (.func 111) #[] #[], .func (.func 112) #[] #[]], Res.row b3 43 (RepD.cells x), Res.row b13 xk [sl'1_], Res.vec 5 1 sl'1_ (([] : List UInt8) ++ x.enc).length ((([] : List UInt8) ++ x.enc).map vb)] (fun w' hw => hw.splitBv (i := 2) (o := b13) (T := xk) (v := sl'1_) (bs := (([] : List UInt8) ++ x.enc)) rfl) ?_
   refine zT 2 (v := sl'1_) rfl rfl rfl rfl (zD rfl (zD rfl (zA ?_)))
   exact zM (xK (v := sl'1_) (v' := Vi 0) rfl rfl rfl (fun w' hw => ⟨sl'1_, (by rw [zER (Decidable.not_not.1 c1)]), by rw [if_pos (Decidable.not_not.1 c1)]; exact hw.one 3 rfl⟩))
theorem zBD (x : RepD) (w : World) (hx : x.wf) : Rets Tryz.prog 53 #[.agg (RepD.cells x).toArray] w fun u_ w' => ∃ (r : Value), u_ = .tuple #[r, Vi (y0 x.ok)] ∧ Own w [] [Res.vec 5 1 r (if x.ok then x.enc else []).length ((if x.ok then x.enc else []).map vb)] w' := by
  refine zW Tryz.func53 rfl Tryz.ntmps53 (Own.start w) ?_
  refine zB (yh rfl rfl (fun b1 => zD rfl (zD rfl (zA (zL (zh [0] rfl (by decide) (by kernel_rfl) (fun w' hw hS => zF 1 rfl (kQ (cs := (RepD.cells x)) 0 rfl rfl) hS (zZ 0 rfl hw (zJ rfl rfl (fun w' hw => (zDf w').mono ?_))))))))))
  rintro _ w1 ⟨rfl, hO⟩
  refine (?_ : CL _ _ _ _ _ _ (Own w [] [Res.row b1 43 (RepD.cells x)])) w1 (hw.frame0 hO)
  refine zG [0] rfl (by decide) (fun w' hw hS => zZ 2 rfl hw (zJ rfl rfl (fun w' hw => (zF7 x w' ‹_›).mono ?_)))
  rintro _ w1 ⟨r1_, rfl, hO⟩
  refine (?_ : CL _ _ _ _ _ _ (Own w [] [Res.row b1 43 (RepD.cells x), Res.vec 5 1 r1_ (if x.ok then x.enc else []).length ((if x.ok then x.enc else []).map vb)])) w1 (hw.frame0 hO)
  refine zG [0] rfl (by decide) (fun w' hw hS => zF 3 rfl (yd (vs := [r1_, Vi (y0 x.ok)]) rfl rfl) hS (zF 4 rfl (yd (vs := [r1_, Vi (y0 x.ok)]) rfl rfl) hS (zF 5 rfl (yz) hS (zF 6 rfl (yz) hS (zR ?_)))))
  refine (?_ : C _ _ _ _ _ _ _ (Own w [] [Res.row b1 43 (RepD.cells x), Res.vec 5 1 r1_ (if x.ok then x.enc else []).length ((if x.ok then x.enc else []).map vb)])) _ hw
  exact zM (xK (v := r1_) (v' := Vi (y0 x.ok)) rfl rfl rfl (fun w' hw => ⟨r1_, rfl, hw.sel [1] rfl (by decide)⟩))
def kL (l : List UInt8) : ByteArray := ⟨l.toArray⟩
def zLn : List UInt8 → Nat → Option (CmdD × Nat) := zn yM fun s => zn yM fun q => zn (zDy 5) fun o => zn yn fun k => zn yM fun a => zn yM fun p => zn yM fun l => yX ⟨s, q, o, kL k, yS a, yS p, l⟩
def zMX : List UInt8 → Nat → Option (RepD × Nat) := zn yM fun s => zn yM fun q => zn (zDy 20) fun e => zn yM fun l => zn yM fun a => zn yM fun u => yX ⟨s, q, e, l, yS a, yS u⟩
def zMx : CmdD := ⟨0, 0, 0, ⟨#[]⟩, 0, 0, 0⟩
def zKF : RepD := ⟨0, 0, 0, 0, 0, 0⟩
instance : DecidablePred CmdD.ok := fun x => inferInstance
instance : DecidablePred RepD.ok := fun x => inferInstance
def jm (b : List UInt8) : Option CmdD := jO zLn CmdD.ok b
def k6 (b : List UInt8) : Option RepD := jO zMX RepD.ok b
theorem zHF {S : List Nat} (o : Nat) (v : Value) (b : List UInt8) (a : Nat) (bad : Bool) (w : World) (hl : zb b.length) (ha : a ≤ b.length) (hin : Own w S [Res.row o 185 [v, Vj a, .bool bad]] w) (hb : Rd w S (Res.sl v b.length (b.map vb))) : Rets Tryz.prog 103 #[.pointer (some ⟨o, 0, none⟩)] w fun u_ w' => ∃ (s : Nat) (q : Nat) (op : Nat) (k : ByteArray) (am : Int) (sp : Int) (le : Nat) (a' : Nat) (bad' : Bool), u_ = .agg #[Vn s, Vn q, Vj op, .string k, Vi am, Vi sp, Vn le] ∧ RdS zLn b a bad (⟨s, q, (op : Int), k, am, sp, le⟩ : CmdD) a' bad' ∧ k.size ≤ b.length ∧ Own w S [Res.row o 185 [v, Vj a', .bool bad']] w' := by
  refine zW Tryz.func103 rfl Tryz.ntmps103 hin ?_
  refine zB (yF (v := .agg #[Vn 0, Vn 0, Vi 0, .string (⟨#[]⟩ : ByteArray), Vi 0, Vi 0, Vn 0]) (by kernel_rfl) rfl (fun b2 => zA (zL (zh [] rfl (by decide) (by kernel_rfl) (fun w' hw hS => zF 0 rfl (zO) hS (zF 2 rfl (zO) hS (zF 4 rfl (zO) hS (zF 6 rfl (zO) hS (zF 9 rfl (zO) hS (zF 12 rfl (zO) hS (zF 15 rfl (zO) hS (zZ 1 rfl hw ?_))))))))))))
  refine zJ rfl rfl (fun w' hw => (xR o v b a bad w' (by first | assumption | omega | (simp <;> omega) | (constructor <;> (first | omega | (simp only [zb]; omega) | (simp <;> omega)))) (by first | omega | (simp <;> omega)) (hw.give [0] rfl (by decide)) (hw.rdTo hb [0] rfl)).mono ?_)
  rintro _ w1 ⟨n1_, a'2_, bad'3_, rfl, hf1_1, hf1_1_1, hO⟩
  have hq1 := hf1_1.le
  refine (?_ : CL _ _ _ _ _ _ (Own w S [Res.row b2 47 [Vn 0, Vn 0, Vi 0, .string (⟨#[]⟩ : ByteArray), Vi 0, Vi 0, Vn 0], Res.row o 185 [v, Vj a'2_, .bool bad'3_]])) w1 (hw.frameL [0] rfl hO)
  refine zN 3 rfl (zJ rfl rfl (fun w' hw => (xR o v b a'2_ bad'3_ w' (by first | assumption | omega | (simp <;> omega) | (constructor <;> (first | omega | (simp only [zb]; omega) | (simp <;> omega)))) (by first | omega | (simp <;> omega)) (hw.give [1] rfl (by decide)) (hw.rdTo hb [1] rfl)).mono ?_))
  rintro _ w1 ⟨n4_, a'5_, bad'6_, rfl, hf1_3, hf1_3_1, hO⟩
  have hq2 := hf1_3.le
  refine (?_ : CL _ _ _ _ _ _ (Own w S [Res.row b2 47 [Vn 0, Vn 0, Vi 0, .string (⟨#[]⟩ : ByteArray), Vi 0, Vi 0, Vn 0], Res.row o 185 [v, Vj a'5_, .bool bad'6_]])) w1 (hw.frameL [1] rfl hO)
  refine zN 5 rfl (zJ rfl rfl (fun w' hw => (zBV o v b a'5_ bad'6_ 5 w' (by first | assumption | omega | (simp <;> omega) | (constructor <;> (first | omega | (simp only [zb]; omega) | (simp <;> omega)))) (by first | omega | (simp <;> omega)) (by first | omega | (simp <;> omega)) (hw.give [1] rfl (by decide)) (hw.rdTo hb [1] rfl)).mono ?_))
  rintro _ w1 ⟨n7_, a'8_, bad'9_, rfl, hf1_5, hf1_5_1, hO⟩
  have hq3 := hf1_5.le
  refine (?_ : CL _ _ _ _ _ _ (Own w S [Res.row b2 47 [Vn 0, Vn 0, Vi 0, .string (⟨#[]⟩ : ByteArray), Vi 0, Vi 0, Vn 0], Res.row o 185 [v, Vj a'8_, .bool bad'9_]])) w1 (hw.frameL [1] rfl hO)
  refine zN 7 rfl (zJ rfl rfl (fun w' hw => (zJU o v b a'8_ bad'9_ w' (by first | assumption | omega | (simp <;> omega) | (constructor <;> (first | omega | (simp only [zb]; omega) | (simp <;> omega)))) (by first | omega | (simp <;> omega)) (hw.give [1] rfl (by decide)) (hw.rdTo hb [1] rfl)).mono ?_))
  rintro r10_ w1 ⟨_, d11_, a'12_, bad'13_, rfl, hf1_7, hf1_7_1, hO⟩
  have hq4 := hf1_7.le
  refine (?_ : CL _ _ _ _ _ _ (Own w S [Res.row b2 47 [Vn 0, Vn 0, Vi 0, .string (⟨#[]⟩ : ByteArray), Vi 0, Vi 0, Vn 0], Res.row o 185 [v, Vj a'12_, .bool bad'13_], Res.vec 5 1 r10_ d11_.length (d11_.map vb)])) w1 (hw.frameL [1] rfl hO)
  refine zG [] rfl (by decide) (fun w' hw hS => zl 8 10 ?_ ?_)
  ·
   refine zY 8 rfl hw (zAG (bs := d11_) (by kernel_rfl) (by kernel_rfl) rfl (fun w' hw' => Vec.sl (Own.holds hw' 2 _ rfl)) rfl (zN 10 rfl (zJ rfl rfl (fun w' hw => (xR o v b a'12_ bad'13_ w' (by first | assumption | omega | (simp <;> omega) | (constructor <;> (first | omega | (simp only [zb]; omega) | (simp <;> omega)))) (by first | omega | (simp <;> omega)) (hw.give [1] rfl (by decide)) (hw.rdTo hb [1] rfl)).mono ?_))))
   rintro _ w1 ⟨n14_, a'15_, bad'16_, rfl, hf1_10, hf1_10_1, hO⟩
   have hq5 := hf1_10.le
   refine (?_ : CL _ _ _ _ _ _ (Own w S [Res.row b2 47 [Vn 0, Vn 0, Vi 0, .string (⟨#[]⟩ : ByteArray), Vi 0, Vi 0, Vn 0], Res.vec 5 1 r10_ d11_.length (d11_.map vb), Res.row o 185 [v, Vj a'15_, .bool bad'16_]])) w1 (hw.frameL [1] rfl hO)
   refine zG [] rfl (by decide) (fun w' hw hS => zF 11 rfl (jD (c := yS n14_) (by kernel_rfl) rfl (xB hf1_10_1) (by kernel_rfl)) hS (zZ 13 rfl hw (zJ rfl rfl (fun w' hw => (xR o v b a'15_ bad'16_ w' (by first | assumption | omega | (simp <;> omega) | (constructor <;> (first | omega | (simp only [zb]; omega) | (simp <;> omega)))) (by first | omega | (simp <;> omega)) (hw.give [2] rfl (by decide)) (hw.rdTo hb [2] rfl)).mono ?_))))
   rintro _ w1 ⟨n17_, a'18_, bad'19_, rfl, hf1_13, hf1_13_1, hO⟩
   have hq6 := hf1_13.le
   refine (?_ : CL _ _ _ _ _ _ (Own w S [Res.row b2 47 [Vn 0, Vn 0, Vi 0, .string (⟨#[]⟩ : ByteArray), Vi 0, Vi 0, Vn 0], Res.vec 5 1 r10_ d11_.length (d11_.map vb), Res.row o 185 [v, Vj a'18_, .bool bad'19_]])) w1 (hw.frameL [2] rfl hO)
   refine zG [] rfl (by decide) (fun w' hw hS => zF 14 rfl (jD (c := yS n17_) (by kernel_rfl) rfl (xB hf1_13_1) (by kernel_rfl)) hS (zZ 16 rfl hw (zJ rfl rfl (fun w' hw => (xR o v b a'18_ bad'19_ w' (by first | assumption | omega | (simp <;> omega) | (constructor <;> (first | omega | (simp only [zb]; omega) | (simp <;> omega)))) (by first | omega | (simp <;> omega)) (hw.give [2] rfl (by decide)) (hw.rdTo hb [2] rfl)).mono ?_))))
   rintro _ w1 ⟨n20_, a'21_, bad'22_, rfl, hf1_16, hf1_16_1, hO⟩
   refine (?_ : CL _ _ _ _ _ _ (Own w S [Res.row b2 47 [Vn 0, Vn 0, Vi 0, .string (⟨#[]⟩ : ByteArray), Vi 0, Vi 0, Vn 0], Res.vec 5 1 r10_ d11_.length (d11_.map vb), Res.row o 185 [v, Vj a'21_, .bool bad'22_]])) w1 (hw.frameL [2] rfl hO)
   refine zG [] rfl (by decide) (fun w' hw hS => zF 17 rfl (j0 (cs := [Vn n1_, Vn n4_, Vj n7_, .string (⟨d11_.toArray⟩ : ByteArray), Vi (yS n14_), Vi (yS n17_), Vn n20_]) (z := [Vn 0, Vn 0, Vi 0, .string (⟨#[]⟩ : ByteArray), Vi 0, Vi 0, Vn 0]) (pl := [(0, 1), (1, 1), (2, 1), (3, 1), (4, 1), (5, 1), (6, 1)]) (by kernel_rfl) (by kernel_rfl)) hS (zZ 18 rfl hw (zi 0 rfl rfl rfl (z7 rfl) rfl (zG [] rfl (by decide) (fun w' hw hS => zR ?_)))))
   refine (?_ : C _ _ _ _ _ _ _ (Own w S [Res.row b2 47 [Vn n1_, Vn n4_, Vj n7_, .string (⟨d11_.toArray⟩ : ByteArray), Vi (yS n14_), Vi (yS n17_), Vn n20_], Res.vec 5 1 r10_ d11_.length (d11_.map vb), Res.row o 185 [v, Vj a'21_, .bool bad'22_]])) _ hw
   exact zM (jw (cs := [Vn n1_, Vn n4_, Vj n7_, .string (⟨d11_.toArray⟩ : ByteArray), Vi (yS n14_), Vi (yS n17_), Vn n20_]) rfl rfl (by kernel_rfl) (Own.rowCells (i := 0) rfl) (fun w' hw => ⟨n1_, n4_, n7_, (⟨d11_.toArray⟩ : ByteArray), yS n14_, yS n17_, n20_, a'21_, bad'22_, rfl, hf1_1.bind (hf1_3.bind (RdS.bind hf1_5.int (hf1_7.bind (hf1_10.bind (hf1_13.bind (hf1_16.bind (RdS.pure _ hf1_16.le))))))), hf1_7_1, hw.sel [2] rfl (by decide)⟩))
  ·
   refine zY 10 rfl hw (zJ rfl rfl (fun w' hw => (xR o v b a'12_ bad'13_ w' (by first | assumption | omega | (simp <;> omega) | (constructor <;> (first | omega | (simp only [zb]; omega) | (simp <;> omega)))) (by first | omega | (simp <;> omega)) (hw.give [1] rfl (by decide)) (hw.rdTo hb [1] rfl)).mono ?_))
   rintro _ w1 ⟨n23_, a'24_, bad'25_, rfl, hf1_10, hf1_10_1, hO⟩
   have hq5 := hf1_10.le
   refine (?_ : CL _ _ _ _ _ _ (Own w S [Res.row b2 47 [Vn 0, Vn 0, Vi 0, .string (⟨#[]⟩ : ByteArray), Vi 0, Vi 0, Vn 0], Res.vec 5 1 r10_ d11_.length (d11_.map vb), Res.row o 185 [v, Vj a'24_, .bool bad'25_]])) w1 (hw.frameL [1] rfl hO)
   refine zG [] rfl (by decide) (fun w' hw hS => zF 11 rfl (jD (c := yS n23_) (by kernel_rfl) rfl (xB hf1_10_1) (by kernel_rfl)) hS (zl 8 13 ?_ ?_))
   ·
    refine zY 8 rfl hw (zAG (bs := d11_) (by kernel_rfl) (by kernel_rfl) rfl (fun w' hw' => Vec.sl (Own.holds hw' 1 _ rfl)) rfl (zN 13 rfl (zJ rfl rfl (fun w' hw => (xR o v b a'24_ bad'25_ w' (by first | assumption | omega | (simp <;> omega) | (constructor <;> (first | omega | (simp only [zb]; omega) | (simp <;> omega)))) (by first | omega | (simp <;> omega)) (hw.give [2] rfl (by decide)) (hw.rdTo hb [2] rfl)).mono ?_))))
    rintro _ w1 ⟨n26_, a'27_, bad'28_, rfl, hf1_13, hf1_13_1, hO⟩
    have hq6 := hf1_13.le
    refine (?_ : CL _ _ _ _ _ _ (Own w S [Res.row b2 47 [Vn 0, Vn 0, Vi 0, .string (⟨#[]⟩ : ByteArray), Vi 0, Vi 0, Vn 0], Res.vec 5 1 r10_ d11_.length (d11_.map vb), Res.row o 185 [v, Vj a'27_, .bool bad'28_]])) w1 (hw.frameL [2] rfl hO)
    refine zG [] rfl (by decide) (fun w' hw hS => zF 14 rfl (jD (c := yS n26_) (by kernel_rfl) rfl (xB hf1_13_1) (by kernel_rfl)) hS (zZ 16 rfl hw (zJ rfl rfl (fun w' hw => (xR o v b a'27_ bad'28_ w' (by first | assumption | omega | (simp <;> omega) | (constructor <;> (first | omega | (simp only [zb]; omega) | (simp <;> omega)))) (by first | omega | (simp <;> omega)) (hw.give [2] rfl (by decide)) (hw.rdTo hb [2] rfl)).mono ?_))))
    rintro _ w1 ⟨n29_, a'30_, bad'31_, rfl, hf1_16, hf1_16_1, hO⟩
    refine (?_ : CL _ _ _ _ _ _ (Own w S [Res.row b2 47 [Vn 0, Vn 0, Vi 0, .string (⟨#[]⟩ : ByteArray), Vi 0, Vi 0, Vn 0], Res.vec 5 1 r10_ d11_.length (d11_.map vb), Res.row o 185 [v, Vj a'30_, .bool bad'31_]])) w1 (hw.frameL [2] rfl hO)
    refine zG [] rfl (by decide) (fun w' hw hS => zF 17 rfl (j0 (cs := [Vn n1_, Vn n4_, Vj n7_, .string (⟨d11_.toArray⟩ : ByteArray), Vi (yS n23_), Vi (yS n26_), Vn n29_]) (z := [Vn 0, Vn 0, Vi 0, .string (⟨#[]⟩ : ByteArray), Vi 0, Vi 0, Vn 0]) (pl := [(0, 1), (1, 1), (2, 1), (3, 1), (4, 1), (5, 1), (6, 1)]) (by kernel_rfl) (by kernel_rfl)) hS (zZ 18 rfl hw (zi 0 rfl rfl rfl (z7 rfl) rfl (zG [] rfl (by decide) (fun w' hw hS => zR ?_)))))
    refine (?_ : C _ _ _ _ _ _ _ (Own w S [Res.row b2 47 [Vn n1_, Vn n4_, Vj n7_, .string (⟨d11_.toArray⟩ : ByteArray), Vi (yS n23_), Vi (yS n26_), Vn n29_], Res.vec 5 1 r10_ d11_.length (d11_.map vb), Res.row o 185 [v, Vj a'30_, .bool bad'31_]])) _ hw
    exact zM (jw (cs := [Vn n1_, Vn n4_, Vj n7_, .string (⟨d11_.toArray⟩ : ByteArray), Vi (yS n23_), Vi (yS n26_), Vn n29_]) rfl rfl (by kernel_rfl) (Own.rowCells (i := 0) rfl) (fun w' hw => ⟨n1_, n4_, n7_, (⟨d11_.toArray⟩ : ByteArray), yS n23_, yS n26_, n29_, a'30_, bad'31_, rfl, hf1_1.bind (hf1_3.bind (RdS.bind hf1_5.int (hf1_7.bind (hf1_10.bind (hf1_13.bind (hf1_16.bind (RdS.pure _ hf1_16.le))))))), hf1_7_1, hw.sel [2] rfl (by decide)⟩))
   ·
    refine zY 13 rfl hw (zJ rfl rfl (fun w' hw => (xR o v b a'24_ bad'25_ w' (by first | assumption | omega | (simp <;> omega) | (constructor <;> (first | omega | (simp only [zb]; omega) | (simp <;> omega)))) (by first | omega | (simp <;> omega)) (hw.give [2] rfl (by decide)) (hw.rdTo hb [2] rfl)).mono ?_))
    rintro _ w1 ⟨n32_, a'33_, bad'34_, rfl, hf1_13, hf1_13_1, hO⟩
    have hq6 := hf1_13.le
    refine (?_ : CL _ _ _ _ _ _ (Own w S [Res.row b2 47 [Vn 0, Vn 0, Vi 0, .string (⟨#[]⟩ : ByteArray), Vi 0, Vi 0, Vn 0], Res.vec 5 1 r10_ d11_.length (d11_.map vb), Res.row o 185 [v, Vj a'33_, .bool bad'34_]])) w1 (hw.frameL [2] rfl hO)
    refine zG [] rfl (by decide) (fun w' hw hS => zF 14 rfl (jD (c := yS n32_) (by kernel_rfl) rfl (xB hf1_13_1) (by kernel_rfl)) hS (zl 8 16 ?_ ?_))
    ·
     refine zY 8 rfl hw (zAG (bs := d11_) (by kernel_rfl) (by kernel_rfl) rfl (fun w' hw' => Vec.sl (Own.holds hw' 1 _ rfl)) rfl (zN 16 rfl (zJ rfl rfl (fun w' hw => (xR o v b a'33_ bad'34_ w' (by first | assumption | omega | (simp <;> omega) | (constructor <;> (first | omega | (simp only [zb]; omega) | (simp <;> omega)))) (by first | omega | (simp <;> omega)) (hw.give [2] rfl (by decide)) (hw.rdTo hb [2] rfl)).mono ?_))))
     rintro _ w1 ⟨n35_, a'36_, bad'37_, rfl, hf1_16, hf1_16_1, hO⟩
     refine (?_ : CL _ _ _ _ _ _ (Own w S [Res.row b2 47 [Vn 0, Vn 0, Vi 0, .string (⟨#[]⟩ : ByteArray), Vi 0, Vi 0, Vn 0], Res.vec 5 1 r10_ d11_.length (d11_.map vb), Res.row o 185 [v, Vj a'36_, .bool bad'37_]])) w1 (hw.frameL [2] rfl hO)
     refine zG [] rfl (by decide) (fun w' hw hS => zF 17 rfl (j0 (cs := [Vn n1_, Vn n4_, Vj n7_, .string (⟨d11_.toArray⟩ : ByteArray), Vi (yS n23_), Vi (yS n32_), Vn n35_]) (z := [Vn 0, Vn 0, Vi 0, .string (⟨#[]⟩ : ByteArray), Vi 0, Vi 0, Vn 0]) (pl := [(0, 1), (1, 1), (2, 1), (3, 1), (4, 1), (5, 1), (6, 1)]) (by kernel_rfl) (by kernel_rfl)) hS (zZ 18 rfl hw (zi 0 rfl rfl rfl (z7 rfl) rfl (zG [] rfl (by decide) (fun w' hw hS => zR ?_)))))
     refine (?_ : C _ _ _ _ _ _ _ (Own w S [Res.row b2 47 [Vn n1_, Vn n4_, Vj n7_, .string (⟨d11_.toArray⟩ : ByteArray), Vi (yS n23_), Vi (yS n32_), Vn n35_], Res.vec 5 1 r10_ d11_.length (d11_.map vb), Res.row o 185 [v, Vj a'36_, .bool bad'37_]])) _ hw
     exact zM (jw (cs := [Vn n1_, Vn n4_, Vj n7_, .string (⟨d11_.toArray⟩ : ByteArray), Vi (yS n23_), Vi (yS n32_), Vn n35_]) rfl rfl (by kernel_rfl) (Own.rowCells (i := 0) rfl) (fun w' hw => ⟨n1_, n4_, n7_, (⟨d11_.toArray⟩ : ByteArray), yS n23_, yS n32_, n35_, a'36_, bad'37_, rfl, hf1_1.bind (hf1_3.bind (RdS.bind hf1_5.int (hf1_7.bind (hf1_10.bind (hf1_13.bind (hf1_16.bind (RdS.pure _ hf1_16.le))))))), hf1_7_1, hw.sel [2] rfl (by decide)⟩))
    ·
     refine zY 16 rfl hw (zJ rfl rfl (fun w' hw => (xR o v b a'33_ bad'34_ w' (by first | assumption | omega | (simp <;> omega) | (constructor <;> (first | omega | (simp only [zb]; omega) | (simp <;> omega)))) (by first | omega | (simp <;> omega)) (hw.give [2] rfl (by decide)) (hw.rdTo hb [2] rfl)).mono ?_))
     rintro _ w1 ⟨n38_, a'39_, bad'40_, rfl, hf1_16, hf1_16_1, hO⟩
     refine (?_ : CL _ _ _ _ _ _ (Own w S [Res.row b2 47 [Vn 0, Vn 0, Vi 0, .string (⟨#[]⟩ : ByteArray), Vi 0, Vi 0, Vn 0], Res.vec 5 1 r10_ d11_.length (d11_.map vb), Res.row o 185 [v, Vj a'39_, .bool bad'40_]])) w1 (hw.frameL [2] rfl hO)
     refine zN 8 rfl (zAG (bs := d11_) (by kernel_rfl) (by kernel_rfl) rfl (fun w' hw' => Vec.sl (Own.holds hw' 1 _ rfl)) rfl (zG [] rfl (by decide) (fun w' hw hS => zF 17 rfl (j0 (cs := [Vn n1_, Vn n4_, Vj n7_, .string (⟨d11_.toArray⟩ : ByteArray), Vi (yS n23_), Vi (yS n32_), Vn n38_]) (z := [Vn 0, Vn 0, Vi 0, .string (⟨#[]⟩ : ByteArray), Vi 0, Vi 0, Vn 0]) (pl := [(0, 1), (1, 1), (2, 1), (3, 1), (4, 1), (5, 1), (6, 1)]) (by kernel_rfl) (by kernel_rfl)) hS (zZ 18 rfl hw (zi 0 rfl rfl rfl (z7 rfl) rfl (zG [] rfl (by decide) (fun w' hw hS => zR ?_)))))))
     refine (?_ : C _ _ _ _ _ _ _ (Own w S [Res.row b2 47 [Vn n1_, Vn n4_, Vj n7_, .string (⟨d11_.toArray⟩ : ByteArray), Vi (yS n23_), Vi (yS n32_), Vn n38_], Res.vec 5 1 r10_ d11_.length (d11_.map vb), Res.row o 185 [v, Vj a'39_, .bool bad'40_]])) _ hw
     exact zM (jw (cs := [Vn n1_, Vn n4_, Vj n7_, .string (⟨d11_.toArray⟩ : ByteArray), Vi (yS n23_), Vi (yS n32_), Vn n38_]) rfl rfl (by kernel_rfl) (Own.rowCells (i := 0) rfl) (fun w' hw => ⟨n1_, n4_, n7_, (⟨d11_.toArray⟩ : ByteArray), yS n23_, yS n32_, n38_, a'39_, bad'40_, rfl, hf1_1.bind (hf1_3.bind (RdS.bind hf1_5.int (hf1_7.bind (hf1_10.bind (hf1_13.bind (hf1_16.bind (RdS.pure _ hf1_16.le))))))), hf1_7_1, hw.sel [2] rfl (by decide)⟩))
theorem zFv (v : Value) (b : List UInt8) (w : World) (hl : b.length ≤ 1048576) (hb : Rd w [] (Res.sl v b.length (b.map vb))) : Rets Tryz.prog 95 #[.agg #[.func (.func 99) #[] #[], .func (.func 100) #[] #[], .func (.func 103) #[] #[]], v] w fun u_ w' => ∃ (s : Nat) (q : Nat) (op : Int) (k : ByteArray) (am : Int) (sp : Int) (le : Nat) (e : Int), u_ = .tuple #[.agg #[Vn s, Vn q, Vi op, .string k, Vi am, Vi sp, Vn le], Vi e] ∧ ValPost (jm b) (⟨s, q, op, k, am, sp, le⟩ : CmdD) zMx e ∧ Own w [] [] w' := by
  refine zW Tryz.func95 rfl Tryz.ntmps95 (Own.start w) ?_
  refine zB (yh rfl rfl (fun b2 => yF (v := .agg #[Vn 0, Vn 0, Vi 0, .string (⟨#[]⟩ : ByteArray), Vi 0, Vi 0, Vn 0]) (by kernel_rfl) rfl (fun b4 => zD rfl (zA (zB (zC rfl (zAz (cs := [v, Vi 0, .bool false]) (z := [.slice none 0 0, Vi 0, .bool false]) (pl := [(0, 1), (1, 1), (2, 1)]) (by kernel_rfl) ⟨(Sl.cell1 (Rd.φ hb)), trivial⟩ (by kernel_rfl) rfl (yh rfl rfl (fun b10 => zD rfl (zA (zB (zQ (o := 2) rfl rfl ?_))))))))))))
  refine zT 0 (v := .func (.func 103) #[] #[]) rfl rfl rfl rfl (zC rfl (xJ (fst := []) (cap := []) rfl (by kernel_rfl) rfl rfl (fun w' hw => (zHF b10 v b 0 false w' (by first | assumption | omega | (simp <;> omega) | (constructor <;> (first | omega | (simp only [zb]; omega) | (simp <;> omega)))) (by first | omega | (simp <;> omega)) (hw.give [2] rfl (by decide)) (hw.rdTo hb [2] rfl)).mono ?_)))
  rintro _ w1 ⟨s1_, q2_, op3_, k4_, am5_, sp6_, le7_, a'8_, bad'9_, rfl, hf2_3, hf2_3_1, hO⟩
  refine (?_ : CL _ _ _ _ _ _ (Own w [] [Res.row b2 121 [.func (.func 99) #[] #[], .func (.func 100) #[] #[], .func (.func 103) #[] #[]], Res.row b4 47 [Vn 0, Vn 0, Vi 0, .string (⟨#[]⟩ : ByteArray), Vi 0, Vi 0, Vn 0], Res.row b10 185 [v, Vj a'8_, .bool bad'9_]])) w1 (hw.frameL [2] rfl hO)
  refine zi 1 rfl rfl rfl (z7 rfl) rfl (zA (zL (zB (zC rfl (zm rfl rfl (zQ (o := 2) rfl rfl (zT 2 (v := .bool bad'9_) rfl rfl rfl rfl (zC rfl (ya (q := bad'9_ = true) 7 4 [26, 25, 24, 23, 22, 21, 20] (((a'8_ : Nat) : Int) ≠ ((b.length : Nat) : Int)) rfl rfl (yc _) rfl rfl rfl trivial rfl (fun h3_4 => ?_) (fun g3_12 => ?_))))))))))
  ·
   refine zP rfl (bF h3_4) (zC rfl (zP rfl (bF h3_4) (zm rfl rfl (zP rfl (bF h3_4) (zQ (o := 1) rfl rfl (zP rfl (bF h3_4) (zT 2 (v := Vj a'8_) rfl rfl rfl rfl (zP rfl (bF h3_4) (zC rfl (zP rfl (bF h3_4) (yD (pR hb) rfl rfl (zP rfl (bF h3_4) ?_))))))))))))
   refine xq rfl rfl rfl ?_
   exact yP rfl (fun _ hw => hw)
  refine zC rfl (ya (q := (bad'9_ = true) ∨ (((a'8_ : Nat) : Int) ≠ ((b.length : Nat) : Int))) 5 13 [33, 32, 31, 30, 29] (¬ (({ session := s1_, seq := q2_, op := ((op3_ : Nat) : Int), key := k4_, amount := am5_, span := sp6_, lease := le7_ } : CmdD).ok)) rfl rfl rfl rfl rfl rfl trivial rfl (fun h3_13 => ?_) (fun g3_19 => ?_))
  ·
   refine zP rfl (gF h3_13) (zQ (o := 0) rfl rfl (zP rfl (gF h3_13) (zT 0 (v := .func (.func 99) #[] #[]) rfl rfl rfl rfl (zP rfl (gF h3_13) (yO 1 rfl rfl rfl (zP rfl (gF h3_13) (xJ (fst := []) (cap := []) rfl (by kernel_rfl) rfl rfl (fun w' hw => (zDA ({ session := s1_, seq := q2_, op := ((op3_ : Nat) : Int), key := k4_, amount := am5_, span := sp6_, lease := le7_ } : CmdD) w' (by have := hf2_3_1; dsimp only; omega)).mono ?_))))))))
   rintro _ w1 ⟨rfl, hO⟩
   refine (?_ : CL _ _ _ _ _ _ (Own w [] [Res.row b2 121 [.func (.func 99) #[] #[], .func (.func 100) #[] #[], .func (.func 103) #[] #[]], Res.row b4 47 [Vn s1_, Vn q2_, Vj op3_, .string k4_, Vi am5_, Vi sp6_, Vn le7_], Res.row b10 185 [v, Vj a'8_, .bool bad'9_]])) w1 (hw.frame0 hO)
   refine zP rfl (gF h3_13) (xp (q := ({ session := s1_, seq := q2_, op := ((op3_ : Nat) : Int), key := k4_, amount := am5_, span := sp6_, lease := le7_ } : CmdD).ok) rfl rfl ?_)
   exact yP rfl (fun _ hw => hw)
  refine zA (zU rfl (fun c1 => ?_) (fun c1 => ?_))
  ·
   refine zB (yF (v := .agg #[Vn 0, Vn 0, Vi 0, .string (⟨#[]⟩ : ByteArray), Vi 0, Vi 0, Vn 0]) (by kernel_rfl) rfl (fun b7 => zA (zB (yO 3 rfl rfl rfl (zi 1 rfl rfl rfl (z7 rfl) rfl (zD rfl (zA ?_)))))))
   exact zM (yK (cs := [Vn 0, Vn 0, Vi 0, .string (⟨#[]⟩ : ByteArray), Vi 0, Vi 0, Vn 0]) (v := Vi 4) rfl rfl rfl (by kernel_rfl) (Own.rowCells (i := 1) rfl) (fun w' hw => ⟨0, 0, 0, ⟨#[]⟩, 0, 0, 0, 4, rfl, .inr ⟨rfl, zAT hf2_3 (fun h1 h2 h3 => c1.elim (fun h => h.elim (fun h => (by rw [h1] at h; cases h)) (fun h => h (by omega))) (fun h => h h3)), rfl⟩, hw.drop⟩))
  ·
   refine zK (zB (yO 1 rfl rfl rfl (zi 1 rfl rfl rfl (z7 rfl) rfl (zD rfl (zA ?_)))))
   exact zM (yK (cs := [Vn s1_, Vn q2_, Vj op3_, .string k4_, Vi am5_, Vi sp6_, Vn le7_]) (v := Vi 0) rfl rfl rfl (by kernel_rfl) (Own.rowCells (i := 1) rfl) (fun w' hw => ⟨s1_, q2_, ((op3_ : Nat) : Int), k4_, am5_, sp6_, le7_, 0, rfl, .inl ⟨rfl, zAZ hf2_3 (by cases h : bad'9_; rfl; exact absurd (.inl (.inl h)) c1) (by have : ¬ (a'8_ : Int) ≠ b.length := fun h => c1 (.inl (.inr h)); omega) (Decidable.not_not.1 fun h => c1 (.inr h))⟩, hw.drop⟩))
theorem zJ7 (v : Value) (b : List UInt8) (w : World) (hl : b.length ≤ 1048576) (hb : Rd w [] (Res.sl v b.length (b.map vb))) : Rets Tryz.prog 56 #[v] w fun u_ w' => ∃ (s : Nat) (q : Nat) (op : Int) (k : ByteArray) (am : Int) (sp : Int) (le : Nat) (e : Int), u_ = .tuple #[.agg #[Vn s, Vn q, Vi op, .string k, Vi am, Vi sp, Vn le], Vi e] ∧ ValPost (jm b) (⟨s, q, op, k, am, sp, le⟩ : CmdD) zMx e ∧ Own w [] [] w' := by
  refine zW Tryz.func56 rfl Tryz.ntmps56 (Own.start w) ?_
  refine zB (yF (v := .agg #[Vn 0, Vn 0, Vi 0, .string (⟨#[]⟩ : ByteArray), Vi 0, Vi 0, Vn 0]) (by kernel_rfl) rfl (fun b2 => zD rfl (zA (zB (zJ rfl rfl (fun w' hw => (zCh w').mono ?_))))))
  rintro _ w1 ⟨rfl, hO⟩
  refine (?_ : CL _ _ _ _ _ _ (Own w [] [Res.row b2 47 [Vn 0, Vn 0, Vi 0, .string (⟨#[]⟩ : ByteArray), Vi 0, Vi 0, Vn 0]])) w1 (hw.frame0 hO)
  refine zC rfl (zJ rfl rfl (fun w' hw => (zFv v b w' (by first | omega | (simp <;> omega)) (hw.rd0 hb)).mono ?_))
  rintro _ w1 ⟨s1_, q2_, op3_, k4_, am5_, sp6_, le7_, e8_, rfl, hf1_2, hO⟩
  refine (?_ : CL _ _ _ _ _ _ (Own w [] [Res.row b2 47 [Vn 0, Vn 0, Vi 0, .string (⟨#[]⟩ : ByteArray), Vi 0, Vi 0, Vn 0]])) w1 (hw.frame0 hO)
  refine zo (vs := [.agg #[Vn s1_, Vn q2_, Vi op3_, .string k4_, Vi am5_, Vi sp6_, Vn le7_], Vi e8_]) rfl rfl rfl (zo (vs := [.agg #[Vn s1_, Vn q2_, Vi op3_, .string k4_, Vi am5_, Vi sp6_, Vn le7_], Vi e8_]) rfl rfl rfl (zi 0 rfl rfl rfl (z7 rfl) rfl (zD rfl (zA ?_))))
  exact zM (yK (cs := [Vn s1_, Vn q2_, Vi op3_, .string k4_, Vi am5_, Vi sp6_, Vn le7_]) (v := Vi e8_) rfl rfl rfl (by kernel_rfl) (Own.rowCells (i := 0) rfl) (fun w' hw => ⟨s1_, q2_, op3_, k4_, am5_, sp6_, le7_, e8_, rfl, hf1_2, hw.drop⟩))
theorem zEu {S : List Nat} (o : Nat) (v : Value) (b : List UInt8) (a : Nat) (bad : Bool) (w : World) (hl : zb b.length) (ha : a ≤ b.length) (hin : Own w S [Res.row o 185 [v, Vj a, .bool bad]] w) (hb : Rd w S (Res.sl v b.length (b.map vb))) : Rets Tryz.prog 112 #[.pointer (some ⟨o, 0, none⟩)] w fun u_ w' => ∃ (s : Nat) (q : Nat) (op : Nat) (le : Nat) (am : Int) (sp : Int) (a' : Nat) (bad' : Bool), u_ = .agg #[Vn s, Vn q, Vj op, Vn le, Vi am, Vi sp] ∧ RdS zMX b a bad (⟨s, q, (op : Int), le, am, sp⟩ : RepD) a' bad' ∧ Own w S [Res.row o 185 [v, Vj a', .bool bad']] w' := by
  refine zW Tryz.func112 rfl Tryz.ntmps112 hin ?_
  refine zB (yF (v := .agg #[Vn 0, Vn 0, Vi 0, Vn 0, Vi 0, Vi 0]) (by kernel_rfl) rfl (fun b2 => zA (zB (zC rfl (zJ rfl rfl (fun w' hw => (xR o v b a bad w' (by first | assumption | omega | (simp <;> omega) | (constructor <;> (first | omega | (simp only [zb]; omega) | (simp <;> omega)))) (by first | omega | (simp <;> omega)) (hw.give [0] rfl (by decide)) (hw.rdTo hb [0] rfl)).mono ?_))))))
  rintro _ w1 ⟨n1_, a'2_, bad'3_, rfl, hf1_1, hf1_1_1, hO⟩
  have hq1 := hf1_1.le
  refine (?_ : CL _ _ _ _ _ _ (Own w S [Res.row b2 43 [Vn 0, Vn 0, Vi 0, Vn 0, Vi 0, Vi 0], Res.row o 185 [v, Vj a'2_, .bool bad'3_]])) w1 (hw.frameL [0] rfl hO)
  refine zC rfl (zJ rfl rfl (fun w' hw => (xR o v b a'2_ bad'3_ w' (by first | assumption | omega | (simp <;> omega) | (constructor <;> (first | omega | (simp only [zb]; omega) | (simp <;> omega)))) (by first | omega | (simp <;> omega)) (hw.give [1] rfl (by decide)) (hw.rdTo hb [1] rfl)).mono ?_))
  rintro _ w1 ⟨n4_, a'5_, bad'6_, rfl, hf1_3, hf1_3_1, hO⟩
  have hq2 := hf1_3.le
  refine (?_ : CL _ _ _ _ _ _ (Own w S [Res.row b2 43 [Vn 0, Vn 0, Vi 0, Vn 0, Vi 0, Vi 0], Res.row o 185 [v, Vj a'5_, .bool bad'6_]])) w1 (hw.frameL [1] rfl hO)
  refine zC rfl (zJ rfl rfl (fun w' hw => (zBV o v b a'5_ bad'6_ 20 w' (by first | assumption | omega | (simp <;> omega) | (constructor <;> (first | omega | (simp only [zb]; omega) | (simp <;> omega)))) (by first | omega | (simp <;> omega)) (by first | omega | (simp <;> omega)) (hw.give [1] rfl (by decide)) (hw.rdTo hb [1] rfl)).mono ?_))
  rintro _ w1 ⟨n7_, a'8_, bad'9_, rfl, hf1_5, hf1_5_1, hO⟩
  have hq3 := hf1_5.le
  refine (?_ : CL _ _ _ _ _ _ (Own w S [Res.row b2 43 [Vn 0, Vn 0, Vi 0, Vn 0, Vi 0, Vi 0], Res.row o 185 [v, Vj a'8_, .bool bad'9_]])) w1 (hw.frameL [1] rfl hO)
  refine zC rfl (zJ rfl rfl (fun w' hw => (xR o v b a'8_ bad'9_ w' (by first | assumption | omega | (simp <;> omega) | (constructor <;> (first | omega | (simp only [zb]; omega) | (simp <;> omega)))) (by first | omega | (simp <;> omega)) (hw.give [1] rfl (by decide)) (hw.rdTo hb [1] rfl)).mono ?_))
  rintro _ w1 ⟨n10_, a'11_, bad'12_, rfl, hf1_7, hf1_7_1, hO⟩
  have hq4 := hf1_7.le
  refine (?_ : CL _ _ _ _ _ _ (Own w S [Res.row b2 43 [Vn 0, Vn 0, Vi 0, Vn 0, Vi 0, Vi 0], Res.row o 185 [v, Vj a'11_, .bool bad'12_]])) w1 (hw.frameL [1] rfl hO)
  refine zC rfl (zJ rfl rfl (fun w' hw => (xR o v b a'11_ bad'12_ w' (by first | assumption | omega | (simp <;> omega) | (constructor <;> (first | omega | (simp only [zb]; omega) | (simp <;> omega)))) (by first | omega | (simp <;> omega)) (hw.give [1] rfl (by decide)) (hw.rdTo hb [1] rfl)).mono ?_))
  rintro _ w1 ⟨n13_, a'14_, bad'15_, rfl, hf1_9, hf1_9_1, hO⟩
  have hq5 := hf1_9.le
  refine (?_ : CL _ _ _ _ _ _ (Own w S [Res.row b2 43 [Vn 0, Vn 0, Vi 0, Vn 0, Vi 0, Vi 0], Res.row o 185 [v, Vj a'14_, .bool bad'15_]])) w1 (hw.frameL [1] rfl hO)
  refine yy (c := yS n13_) (by kernel_rfl) rfl (xB hf1_9_1) rfl ?_ (by kernel_rfl)
  refine zC rfl (zJ rfl rfl (fun w' hw => (xR o v b a'14_ bad'15_ w' (by first | assumption | omega | (simp <;> omega) | (constructor <;> (first | omega | (simp only [zb]; omega) | (simp <;> omega)))) (by first | omega | (simp <;> omega)) (hw.give [1] rfl (by decide)) (hw.rdTo hb [1] rfl)).mono ?_))
  rintro _ w1 ⟨n16_, a'17_, bad'18_, rfl, hf1_12, hf1_12_1, hO⟩
  refine (?_ : CL _ _ _ _ _ _ (Own w S [Res.row b2 43 [Vn 0, Vn 0, Vi 0, Vn 0, Vi 0, Vi 0], Res.row o 185 [v, Vj a'17_, .bool bad'18_]])) w1 (hw.frameL [1] rfl hO)
  refine yy (c := yS n16_) (by kernel_rfl) rfl (xB hf1_12_1) rfl ?_ (by kernel_rfl)
  refine yT (cs := [Vn n1_, Vn n4_, Vj n7_, Vn n10_, Vi (yS n13_), Vi (yS n16_)]) (z := [Vn 0, Vn 0, Vi 0, Vn 0, Vi 0, Vi 0]) (pl := [(0, 1), (1, 1), (2, 1), (3, 1), (4, 1), (5, 1)]) (by kernel_rfl) (by kernel_rfl) rfl (zi 0 rfl rfl rfl (z7 rfl) rfl (zA ?_))
  exact zM (jw (cs := [Vn n1_, Vn n4_, Vj n7_, Vn n10_, Vi (yS n13_), Vi (yS n16_)]) rfl rfl (by kernel_rfl) (Own.rowCells (i := 0) rfl) (fun w' hw => ⟨n1_, n4_, n7_, n10_, yS n13_, yS n16_, a'17_, bad'18_, rfl, hf1_1.bind (hf1_3.bind (RdS.bind hf1_5.int (hf1_7.bind (hf1_9.bind (hf1_12.bind (RdS.pure _ hf1_12.le)))))), hw.sel [1] rfl (by decide)⟩))
theorem zF8 (v : Value) (b : List UInt8) (w : World) (hl : b.length ≤ 1048576) (hb : Rd w [] (Res.sl v b.length (b.map vb))) : Rets Tryz.prog 75 #[.agg #[.func (.func 110) #[] #[], .func (.func 111) #[] #[], .func (.func 112) #[] #[]], v] w fun u_ w' => ∃ (s : Nat) (q : Nat) (op : Int) (le : Nat) (am : Int) (sp : Int) (e : Int), u_ = .tuple #[.agg #[Vn s, Vn q, Vi op, Vn le, Vi am, Vi sp], Vi e] ∧ ValPost (k6 b) (⟨s, q, op, le, am, sp⟩ : RepD) zKF e ∧ Own w [] [] w' := by
  refine zW Tryz.func75 rfl Tryz.ntmps75 (Own.start w) ?_
  refine zB (yh rfl rfl (fun b2 => yF (v := .agg #[Vn 0, Vn 0, Vi 0, Vn 0, Vi 0, Vi 0]) (by kernel_rfl) rfl (fun b4 => zD rfl (zA (zB (zC rfl (zAz (cs := [v, Vi 0, .bool false]) (z := [.slice none 0 0, Vi 0, .bool false]) (pl := [(0, 1), (1, 1), (2, 1)]) (by kernel_rfl) ⟨(Sl.cell1 (Rd.φ hb)), trivial⟩ (by kernel_rfl) rfl (yh rfl rfl (fun b10 => zD rfl (zA (zB (zQ (o := 2) rfl rfl ?_))))))))))))
  refine zT 0 (v := .func (.func 112) #[] #[]) rfl rfl rfl rfl (zC rfl (xJ (fst := []) (cap := []) rfl (by kernel_rfl) rfl rfl (fun w' hw => (zEu b10 v b 0 false w' (by first | assumption | omega | (simp <;> omega) | (constructor <;> (first | omega | (simp only [zb]; omega) | (simp <;> omega)))) (by first | omega | (simp <;> omega)) (hw.give [2] rfl (by decide)) (hw.rdTo hb [2] rfl)).mono ?_)))
  rintro _ w1 ⟨s1_, q2_, op3_, le4_, am5_, sp6_, a'7_, bad'8_, rfl, hf2_3, hO⟩
  refine (?_ : CL _ _ _ _ _ _ (Own w [] [Res.row b2 137 [.func (.func 110) #[] #[], .func (.func 111) #[] #[], .func (.func 112) #[] #[]], Res.row b4 43 [Vn 0, Vn 0, Vi 0, Vn 0, Vi 0, Vi 0], Res.row b10 185 [v, Vj a'7_, .bool bad'8_]])) w1 (hw.frameL [2] rfl hO)
  refine zi 1 rfl rfl rfl (z7 rfl) rfl (zA (zL (zB (zC rfl (zm rfl rfl (zQ (o := 2) rfl rfl (zT 2 (v := .bool bad'8_) rfl rfl rfl rfl (zC rfl (ya (q := bad'8_ = true) 7 4 [26, 25, 24, 23, 22, 21, 20] (((a'7_ : Nat) : Int) ≠ ((b.length : Nat) : Int)) rfl rfl (yc _) rfl rfl rfl trivial rfl (fun h3_4 => ?_) (fun g3_12 => ?_))))))))))
  ·
   refine zP rfl (bF h3_4) (zC rfl (zP rfl (bF h3_4) (zm rfl rfl (zP rfl (bF h3_4) (zQ (o := 1) rfl rfl (zP rfl (bF h3_4) (zT 2 (v := Vj a'7_) rfl rfl rfl rfl (zP rfl (bF h3_4) (zC rfl (zP rfl (bF h3_4) (yD (pR hb) rfl rfl (zP rfl (bF h3_4) ?_))))))))))))
   refine xq rfl rfl rfl ?_
   exact yP rfl (fun _ hw => hw)
  refine zC rfl (ya (q := (bad'8_ = true) ∨ (((a'7_ : Nat) : Int) ≠ ((b.length : Nat) : Int))) 5 13 [33, 32, 31, 30, 29] (¬ (({ session := s1_, seq := q2_, e := ((op3_ : Nat) : Int), lease := le4_, amount := am5_, until_ := sp6_ } : RepD).ok)) rfl rfl rfl rfl rfl rfl trivial rfl (fun h3_13 => ?_) (fun g3_19 => ?_))
  ·
   refine zP rfl (gF h3_13) (zQ (o := 0) rfl rfl (zP rfl (gF h3_13) (zT 0 (v := .func (.func 110) #[] #[]) rfl rfl rfl rfl (zP rfl (gF h3_13) (yO (cs := [Vn s1_, Vn q2_, Vj op3_, Vn le4_, Vi am5_, Vi sp6_]) 1 rfl rfl rfl (zP rfl (gF h3_13) (xJ (fst := []) (cap := []) rfl (by kernel_rfl) rfl rfl (fun w' hw => (zCi ({ session := s1_, seq := q2_, e := ((op3_ : Nat) : Int), lease := le4_, amount := am5_, until_ := sp6_ } : RepD) w').mono ?_))))))))
   rintro _ w1 ⟨rfl, hO⟩
   refine (?_ : CL _ _ _ _ _ _ (Own w [] [Res.row b2 137 [.func (.func 110) #[] #[], .func (.func 111) #[] #[], .func (.func 112) #[] #[]], Res.row b4 43 [Vn s1_, Vn q2_, Vj op3_, Vn le4_, Vi am5_, Vi sp6_], Res.row b10 185 [v, Vj a'7_, .bool bad'8_]])) w1 (hw.frame0 hO)
   refine zP rfl (gF h3_13) (xp (q := ({ session := s1_, seq := q2_, e := ((op3_ : Nat) : Int), lease := le4_, amount := am5_, until_ := sp6_ } : RepD).ok) rfl rfl ?_)
   exact yP rfl (fun _ hw => hw)
  refine zA (zU rfl (fun c1 => ?_) (fun c1 => ?_))
  ·
   refine zB (yF (v := .agg #[Vn 0, Vn 0, Vi 0, Vn 0, Vi 0, Vi 0]) (by kernel_rfl) rfl (fun b7 => zA (zB (yO (cs := [Vn 0, Vn 0, Vi 0, Vn 0, Vi 0, Vi 0]) 3 rfl rfl rfl (zi 1 rfl rfl rfl (z7 rfl) rfl (zD rfl (zA ?_)))))))
   exact zM (yK (cs := [Vn 0, Vn 0, Vi 0, Vn 0, Vi 0, Vi 0]) (v := Vi 4) rfl rfl rfl (by kernel_rfl) (Own.rowCells (i := 1) rfl) (fun w' hw => ⟨0, 0, 0, 0, 0, 0, 4, rfl, .inr ⟨rfl, zAT hf2_3 (fun h1 h2 h3 => c1.elim (fun h => h.elim (fun h => (by rw [h1] at h; cases h)) (fun h => h (by omega))) (fun h => h h3)), rfl⟩, hw.drop⟩))
  ·
   refine zK (zB (yO (cs := [Vn s1_, Vn q2_, Vj op3_, Vn le4_, Vi am5_, Vi sp6_]) 1 rfl rfl rfl (zi 1 rfl rfl rfl (z7 rfl) rfl (zD rfl (zA ?_)))))
   exact zM (yK (cs := [Vn s1_, Vn q2_, Vj op3_, Vn le4_, Vi am5_, Vi sp6_]) (v := Vi 0) rfl rfl rfl (by kernel_rfl) (Own.rowCells (i := 1) rfl) (fun w' hw => ⟨s1_, q2_, ((op3_ : Nat) : Int), le4_, am5_, sp6_, 0, rfl, .inl ⟨rfl, zAZ hf2_3 (by cases h : bad'8_; rfl; exact absurd (.inl (.inl h)) c1) (by have : ¬ (a'7_ : Int) ≠ b.length := fun h => c1 (.inl (.inr h)); omega) (Decidable.not_not.1 fun h => c1 (.inr h))⟩, hw.drop⟩))
theorem zKf (v : Value) (b : List UInt8) (w : World) (hl : b.length ≤ 1048576) (hb : Rd w [] (Res.sl v b.length (b.map vb))) : Rets Tryz.prog 43 #[v] w fun u_ w' => ∃ (s : Nat) (q : Nat) (op : Int) (le : Nat) (am : Int) (sp : Int) (e : Int), u_ = .tuple #[.agg #[Vn s, Vn q, Vi op, Vn le, Vi am, Vi sp], Vi e] ∧ ValPost (k6 b) (⟨s, q, op, le, am, sp⟩ : RepD) zKF e ∧ Own w [] [] w' := by
  refine zW Tryz.func43 rfl Tryz.ntmps43 (Own.start w) ?_
  refine zB (yF (v := .agg #[Vn 0, Vn 0, Vi 0, Vn 0, Vi 0, Vi 0]) (by kernel_rfl) rfl (fun b2 => zD rfl (zA (zB (zJ rfl rfl (fun w' hw => (zDf w').mono ?_))))))
  rintro _ w1 ⟨rfl, hO⟩
  refine (?_ : CL _ _ _ _ _ _ (Own w [] [Res.row b2 43 [Vn 0, Vn 0, Vi 0, Vn 0, Vi 0, Vi 0]])) w1 (hw.frame0 hO)
  refine zC rfl (zJ rfl rfl (fun w' hw => (zF8 v b w' (by first | omega | (simp <;> omega)) (hw.rd0 hb)).mono ?_))
  rintro _ w1 ⟨s1_, q2_, op3_, le4_, am5_, sp6_, e7_, rfl, hf1_2, hO⟩
  refine (?_ : CL _ _ _ _ _ _ (Own w [] [Res.row b2 43 [Vn 0, Vn 0, Vi 0, Vn 0, Vi 0, Vi 0]])) w1 (hw.frame0 hO)
  refine zo (vs := [.agg #[Vn s1_, Vn q2_, Vi op3_, Vn le4_, Vi am5_, Vi sp6_], Vi e7_]) rfl rfl rfl (zo (vs := [.agg #[Vn s1_, Vn q2_, Vi op3_, Vn le4_, Vi am5_, Vi sp6_], Vi e7_]) rfl rfl rfl (zi 0 rfl rfl rfl (z7 rfl) rfl (zD rfl (zA ?_))))
  exact zM (yK (cs := [Vn s1_, Vn q2_, Vi op3_, Vn le4_, Vi am5_, Vi sp6_]) (v := Vi e7_) rfl rfl rfl (by kernel_rfl) (Own.rowCells (i := 0) rfl) (fun w' hw => ⟨s1_, q2_, op3_, le4_, am5_, sp6_, e7_, rfl, hf1_2, hw.drop⟩))
theorem zFq {S : List Nat} (o : Nat) (v : Value) (b : List UInt8) (a : Nat) (bad : Bool) (w : World) (hl : zb b.length) (ha : a ≤ b.length) (hin : Own w S [Res.row o 171 [v, Vj a, .bool bad]] w) (hb : Rd w S (Res.sl v b.length (b.map vb))) : Rets Tryz.prog 97 #[.pointer (some ⟨o, 0, none⟩)] w fun u_ w' => ∃ (s : Nat) (q : Nat) (op : Nat) (k : ByteArray) (am : Int) (sp : Int) (le : Nat) (a' : Nat) (bad' : Bool), u_ = .agg #[Vn s, Vn q, Vj op, .string k, Vi am, Vi sp, Vn le] ∧ RdS zLn b a bad (⟨s, q, (op : Int), k, am, sp, le⟩ : CmdD) a' bad' ∧ k.size ≤ b.length ∧ Own w S [Res.row o 171 [v, Vj a', .bool bad']] w' := by
  refine zW Tryz.func97 rfl Tryz.ntmps97 hin ?_
  refine zB (yF (v := .agg #[Vn 0, Vn 0, Vi 0, .string (⟨#[]⟩ : ByteArray), Vi 0, Vi 0, Vn 0]) (by kernel_rfl) rfl (fun b2 => zA (zB (yT (cs := [Vn 0, Vn 0, Vi 0, .string (⟨#[]⟩ : ByteArray), Vi 0, Vi 0, Vn 0]) (z := [Vn 0, Vn 0, Vi 0, .string (⟨#[]⟩ : ByteArray), Vi 0, Vi 0, Vn 0]) (pl := [(0, 1), (1, 1), (2, 1), (3, 1), (4, 1), (5, 1), (6, 1)]) (by kernel_rfl) (by kernel_rfl) rfl (yF (v := .agg #[Vn 0, Vn 0, Vi 0, .string (⟨#[]⟩ : ByteArray), Vi 0, Vi 0, Vn 0]) (by kernel_rfl) rfl (fun b3 => zi 2 rfl rfl rfl (z7 rfl) rfl (zA (zB (zC rfl (zJ rfl rfl (fun w' hw => (jf o v b a bad w' (by first | assumption | omega | (simp <;> omega) | (constructor <;> (first | omega | (simp only [zb]; omega) | (simp <;> omega)))) (by first | omega | (simp <;> omega)) (hw.give [0] rfl (by decide)) (hw.rdTo hb [0] rfl)).mono ?_)))))))))))
  rintro _ w1 ⟨n1_, a'2_, bad'3_, rfl, hf2_1, hf2_1_1, hO⟩
  have hq1 := hf2_1.le
  refine (?_ : CL _ _ _ _ _ _ (Own w S [Res.row b2 47 [Vn 0, Vn 0, Vi 0, .string (⟨#[]⟩ : ByteArray), Vi 0, Vi 0, Vn 0], Res.row b3 47 [Vn 0, Vn 0, Vi 0, .string (⟨#[]⟩ : ByteArray), Vi 0, Vi 0, Vn 0], Res.row o 171 [v, Vj a'2_, .bool bad'3_]])) w1 (hw.frameL [0] rfl hO)
  refine zQ (o := 0) rfl rfl (yk 1 rfl rfl rfl rfl rfl (zA (zB (zC rfl (zJ rfl rfl (fun w' hw => (jf o v b a'2_ bad'3_ w' (by first | assumption | omega | (simp <;> omega) | (constructor <;> (first | omega | (simp only [zb]; omega) | (simp <;> omega)))) (by first | omega | (simp <;> omega)) (hw.give [2] rfl (by decide)) (hw.rdTo hb [2] rfl)).mono ?_))))))
  rintro _ w1 ⟨n4_, a'5_, bad'6_, rfl, hf3_1, hf3_1_1, hO⟩
  have hq2 := hf3_1.le
  refine (?_ : CL _ _ _ _ _ _ (Own w S [Res.row b2 47 [Vn 0, Vn 0, Vi 0, .string (⟨#[]⟩ : ByteArray), Vi 0, Vi 0, Vn 0], Res.row b3 47 [Vn n1_, Vn 0, Vi 0, .string (⟨#[]⟩ : ByteArray), Vi 0, Vi 0, Vn 0], Res.row o 171 [v, Vj a'5_, .bool bad'6_]])) w1 (hw.frameL [2] rfl hO)
  refine zQ (o := 1) rfl rfl (yk 1 rfl rfl rfl rfl rfl (zA (zB (zC rfl (zJ rfl rfl (fun w' hw => (zCe o v b a'5_ bad'6_ 5 w' (by first | assumption | omega | (simp <;> omega) | (constructor <;> (first | omega | (simp only [zb]; omega) | (simp <;> omega)))) (by first | omega | (simp <;> omega)) (by first | omega | (simp <;> omega)) (hw.give [2] rfl (by decide)) (hw.rdTo hb [2] rfl)).mono ?_))))))
  rintro _ w1 ⟨n7_, a'8_, bad'9_, rfl, hf4_1, hf4_1_1, hO⟩
  have hq3 := hf4_1.le
  refine (?_ : CL _ _ _ _ _ _ (Own w S [Res.row b2 47 [Vn 0, Vn 0, Vi 0, .string (⟨#[]⟩ : ByteArray), Vi 0, Vi 0, Vn 0], Res.row b3 47 [Vn n1_, Vn n4_, Vi 0, .string (⟨#[]⟩ : ByteArray), Vi 0, Vi 0, Vn 0], Res.row o 171 [v, Vj a'8_, .bool bad'9_]])) w1 (hw.frameL [2] rfl hO)
  refine zQ (o := 2) rfl rfl (yk 1 rfl rfl rfl rfl rfl (zA (zB (zC rfl (zJ rfl rfl (fun w' hw => (zHE o v b a'8_ bad'9_ w' (by first | assumption | omega | (simp <;> omega) | (constructor <;> (first | omega | (simp only [zb]; omega) | (simp <;> omega)))) (by first | omega | (simp <;> omega)) (hw.give [2] rfl (by decide)) (hw.rdTo hb [2] rfl)).mono ?_))))))
  rintro r10_ w1 ⟨_, d11_, a'12_, bad'13_, rfl, hf5_1, hf5_1_1, hO⟩
  have hq4 := hf5_1.le
  refine (?_ : CL _ _ _ _ _ _ (Own w S [Res.row b2 47 [Vn 0, Vn 0, Vi 0, .string (⟨#[]⟩ : ByteArray), Vi 0, Vi 0, Vn 0], Res.row b3 47 [Vn n1_, Vn n4_, Vj n7_, .string (⟨#[]⟩ : ByteArray), Vi 0, Vi 0, Vn 0], Res.row o 171 [v, Vj a'12_, .bool bad'13_], Res.vec 5 1 r10_ d11_.length (d11_.map vb)])) w1 (hw.frameL [2] rfl hO)
  refine zAG (bs := d11_) (by kernel_rfl) (by kernel_rfl) rfl (fun w' hw' => Vec.sl (Own.holds hw' 3 _ rfl)) rfl (zQ (o := 3) rfl rfl (yk 1 rfl rfl rfl rfl rfl (zA (zB (zC rfl (zJ rfl rfl (fun w' hw => (jf o v b a'12_ bad'13_ w' (by first | assumption | omega | (simp <;> omega) | (constructor <;> (first | omega | (simp only [zb]; omega) | (simp <;> omega)))) (by first | omega | (simp <;> omega)) (hw.give [2] rfl (by decide)) (hw.rdTo hb [2] rfl)).mono ?_)))))))
  rintro _ w1 ⟨n14_, a'15_, bad'16_, rfl, hf6_1, hf6_1_1, hO⟩
  have hq5 := hf6_1.le
  refine (?_ : CL _ _ _ _ _ _ (Own w S [Res.row b2 47 [Vn 0, Vn 0, Vi 0, .string (⟨#[]⟩ : ByteArray), Vi 0, Vi 0, Vn 0], Res.row b3 47 [Vn n1_, Vn n4_, Vj n7_, .string (⟨d11_.toArray⟩ : ByteArray), Vi 0, Vi 0, Vn 0], Res.vec 5 1 r10_ d11_.length (d11_.map vb), Res.row o 171 [v, Vj a'15_, .bool bad'16_]])) w1 (hw.frameL [2] rfl hO)
  refine yy (c := yS n14_) (by kernel_rfl) rfl (xB hf6_1_1) rfl ?_ (by kernel_rfl)
  refine zQ (o := 4) rfl rfl (yk 1 rfl rfl rfl rfl rfl (zA (zB (zC rfl (zJ rfl rfl (fun w' hw => (jf o v b a'15_ bad'16_ w' (by first | assumption | omega | (simp <;> omega) | (constructor <;> (first | omega | (simp only [zb]; omega) | (simp <;> omega)))) (by first | omega | (simp <;> omega)) (hw.give [3] rfl (by decide)) (hw.rdTo hb [3] rfl)).mono ?_))))))
  rintro _ w1 ⟨n17_, a'18_, bad'19_, rfl, hf7_1, hf7_1_1, hO⟩
  have hq6 := hf7_1.le
  refine (?_ : CL _ _ _ _ _ _ (Own w S [Res.row b2 47 [Vn 0, Vn 0, Vi 0, .string (⟨#[]⟩ : ByteArray), Vi 0, Vi 0, Vn 0], Res.row b3 47 [Vn n1_, Vn n4_, Vj n7_, .string (⟨d11_.toArray⟩ : ByteArray), Vi (yS n14_), Vi 0, Vn 0], Res.vec 5 1 r10_ d11_.length (d11_.map vb), Res.row o 171 [v, Vj a'18_, .bool bad'19_]])) w1 (hw.frameL [3] rfl hO)
  refine yy (c := yS n17_) (by kernel_rfl) rfl (xB hf7_1_1) rfl ?_ (by kernel_rfl)
  refine zQ (o := 5) rfl rfl (yk 1 rfl rfl rfl rfl rfl (zA (zB (zC rfl (zJ rfl rfl (fun w' hw => (jf o v b a'18_ bad'19_ w' (by first | assumption | omega | (simp <;> omega) | (constructor <;> (first | omega | (simp only [zb]; omega) | (simp <;> omega)))) (by first | omega | (simp <;> omega)) (hw.give [3] rfl (by decide)) (hw.rdTo hb [3] rfl)).mono ?_))))))
  rintro _ w1 ⟨n20_, a'21_, bad'22_, rfl, hf8_1, hf8_1_1, hO⟩
  refine (?_ : CL _ _ _ _ _ _ (Own w S [Res.row b2 47 [Vn 0, Vn 0, Vi 0, .string (⟨#[]⟩ : ByteArray), Vi 0, Vi 0, Vn 0], Res.row b3 47 [Vn n1_, Vn n4_, Vj n7_, .string (⟨d11_.toArray⟩ : ByteArray), Vi (yS n14_), Vi (yS n17_), Vn 0], Res.vec 5 1 r10_ d11_.length (d11_.map vb), Res.row o 171 [v, Vj a'21_, .bool bad'22_]])) w1 (hw.frameL [3] rfl hO)
  refine zQ (o := 6) rfl rfl (yk 1 rfl rfl rfl rfl rfl (zA (zB (yO 1 rfl rfl rfl (zi 0 rfl rfl rfl (z7 rfl) rfl (zA ?_))))))
  exact zM (jw (cs := [Vn n1_, Vn n4_, Vj n7_, .string (⟨d11_.toArray⟩ : ByteArray), Vi (yS n14_), Vi (yS n17_), Vn n20_]) rfl rfl (by kernel_rfl) (Own.rowCells (i := 0) rfl) (fun w' hw => ⟨n1_, n4_, n7_, (⟨d11_.toArray⟩ : ByteArray), yS n14_, yS n17_, n20_, a'21_, bad'22_, rfl, hf2_1.bind (hf3_1.bind (RdS.bind hf4_1.int (hf5_1.bind (hf6_1.bind (hf7_1.bind (hf8_1.bind (RdS.pure _ hf8_1.le))))))), hf5_1_1, hw.sel [3] rfl (by decide)⟩))
theorem zE2 (x : CmdD) (w : World) (hx : x.key.size ≤ 1048576) : Rets Tryz.prog 29 #[.agg (CmdD.cells x).toArray] w fun u_ w' => u_ = .bool (decide x.ok) ∧ Own w [] [] w' := by
  refine zW Tryz.func29 rfl Tryz.ntmps29 (Own.start w) ?_
  refine zB (yh rfl rfl (fun b1 => zD rfl (zA (zB (zQ (o := 2) rfl rfl (zT 0 (v := Vi x.op) rfl rfl rfl rfl (xC rfl rfl rfl (zC rfl (yR (q := 1 ≤ x.op) 3 3 [9, 8, 7] (x.op ≤ 5) rfl rfl rfl rfl rfl rfl trivial rfl (fun h1_3 => ?_) (fun g1_7 => ?_))))))))))
  ·
   refine zP rfl (gT h1_3) (zQ (o := 2) rfl rfl (zP rfl (gT h1_3) (zT 0 (v := Vi x.op) rfl rfl rfl rfl (zP rfl (gT h1_3) (kd rfl rfl rfl ?_)))))
   exact yP rfl (fun _ hw => hw)
  refine zC rfl (yR (q := (1 ≤ x.op) ∧ (x.op ≤ 5)) 4 8 [15, 14, 13, 12] (((x.key.size : Nat) : Int) ≤ 64) rfl rfl rfl rfl rfl rfl trivial rfl (fun h1_8 => ?_) (fun g1_13 => ?_))
  ·
   refine zP rfl (gT h1_8) (zQ (o := 3) rfl rfl (zP rfl (gT h1_8) (zT 0 (v := .string x.key) rfl rfl rfl rfl (zP rfl (gT h1_8) (zCI (by kernel_rfl) rfl rfl (zP rfl (gT h1_8) (kd rfl rfl rfl ?_)))))))
   exact yP rfl (fun _ hw => hw)
  refine zD rfl (zA ?_)
  exact zM (z8 (v := .bool (decide (((1 ≤ x.op) ∧ (x.op ≤ 5)) ∧ (((x.key.size : Nat) : Int) ≤ 64)))) rfl rfl (fun w' hw => ⟨(by congr 1; exact decide_eq_decide.2 (by unfold CmdD.ok; omega)), hw.drop⟩))
theorem zJk (v : Value) (b : List UInt8) (w : World) (hl : b.length ≤ 1048576) (hb : Rd w [] (Res.sl v b.length (b.map vb))) : Rets Tryz.prog 59 #[v] w fun u_ w' => ∃ (s : Nat) (q : Nat) (op : Int) (k : ByteArray) (am : Int) (sp : Int) (le : Nat) (f : Bool), u_ = .tuple #[.agg #[Vn s, Vn q, Vi op, .string k, Vi am, Vi sp, Vn le], .bool f] ∧ RefPost (jm b) (⟨s, q, op, k, am, sp, le⟩ : CmdD) f ∧ Own w [] [] w' := by
  refine zW Tryz.func59 rfl Tryz.ntmps59 (Own.start w) ?_
  refine zB (yF (v := .agg #[Vn 0, Vn 0, Vi 0, .string (⟨#[]⟩ : ByteArray), Vi 0, Vi 0, Vn 0]) (by kernel_rfl) rfl (fun b2 => zD rfl (zA (zB (zC rfl (zAz (cs := [v, Vi 0, .bool false]) (z := [.slice none 0 0, Vi 0, .bool false]) (pl := [(0, 1), (1, 1), (2, 1)]) (by kernel_rfl) ⟨(Sl.cell1 (Rd.φ hb)), trivial⟩ (by kernel_rfl) rfl (yh rfl rfl (fun b8 => zD rfl (zA (zB (zC rfl (zJ rfl rfl (fun w' hw => ?_)))))))))))))
  refine (zFq b8 v b 0 false w' (by first | assumption | omega | (simp <;> omega) | (constructor <;> (first | omega | (simp only [zb]; omega) | (simp <;> omega)))) (by first | omega | (simp <;> omega)) (hw.give [1] rfl (by decide)) (hw.rdTo hb [1] rfl)).mono ?_
  rintro _ w1 ⟨s1_, q2_, op3_, k4_, am5_, sp6_, le7_, a'8_, bad'9_, rfl, hf2_1, hf2_1_1, hO⟩
  refine (?_ : CL _ _ _ _ _ _ (Own w [] [Res.row b2 47 [Vn 0, Vn 0, Vi 0, .string (⟨#[]⟩ : ByteArray), Vi 0, Vi 0, Vn 0], Res.row b8 171 [v, Vj a'8_, .bool bad'9_]])) w1 (hw.frameL [1] rfl hO)
  refine yF (v := .agg #[Vn 0, Vn 0, Vi 0, .string (⟨#[]⟩ : ByteArray), Vi 0, Vi 0, Vn 0]) (by kernel_rfl) rfl (fun b5 => zi 2 rfl rfl rfl (z7 rfl) rfl (zA (zL (zh [2] rfl (by decide) (by kernel_rfl) (fun w' hw hS => zF 0 rfl (kQ 0 rfl rfl) hS (zF 1 rfl (zO) hS (zZ 2 rfl hw (zJ rfl rfl (fun w' hw => (zGf b8 v b a'8_ bad'9_ w' (by first | assumption | omega | (simp <;> omega) | (constructor <;> (first | omega | (simp only [zb]; omega) | (simp <;> omega)))) (hw.give [1] rfl (by decide)) (hw.rdTo hb [1] rfl)).mono ?_)))))))))
  rintro _ w1 ⟨rfl, hO⟩
  refine (?_ : CL _ _ _ _ _ _ (Own w [] [Res.row b2 47 [Vn 0, Vn 0, Vi 0, .string (⟨#[]⟩ : ByteArray), Vi 0, Vi 0, Vn 0], Res.row b5 47 [Vn s1_, Vn q2_, Vj op3_, .string k4_, Vi am5_, Vi sp6_, Vn le7_], Res.row b8 171 [v, Vj a'8_, .bool bad'9_]])) w1 (hw.frameL [1] rfl hO)
  refine zG [1] rfl (by decide) (fun w' hw hS => zF 3 rfl (zO) hS ?_)
  by_cases g3_3 : bad'9_ = false ∧ a'8_ = b.length
  ·
   refine zg 4 rfl rfl (gT g3_3) (kQ 0 rfl rfl) hS (zZ 5 rfl hw (zP rfl (gT g3_3) (zJ rfl rfl (fun w' hw => (zE2 ({ session := s1_, seq := q2_, op := ((op3_ : Nat) : Int), key := k4_, amount := am5_, span := sp6_, lease := le7_ } : CmdD) w' (by have := hf2_1_1; dsimp only; omega)).mono ?_))))
   rintro _ w1 ⟨rfl, hO⟩
   refine (?_ : CL _ _ _ _ _ _ (Own w [] [Res.row b2 47 [Vn 0, Vn 0, Vi 0, .string (⟨#[]⟩ : ByteArray), Vi 0, Vi 0, Vn 0], Res.row b5 47 [Vn s1_, Vn q2_, Vj op3_, .string k4_, Vi am5_, Vi sp6_, Vn le7_], Res.row b8 171 [v, Vj a'8_, .bool bad'9_]])) w1 (hw.frame0 hO)
   refine zG [1] rfl (by decide) (fun w' hw hS => zF 6 rfl (y6 (gT g3_3)) hS (zZ 7 rfl hw (zi 0 rfl rfl rfl (z7 rfl) rfl (zG [1] rfl (by decide) (fun w' hw hS => zF 8 rfl (yz) hS (zR ?_))))))
   refine (?_ : C _ _ _ _ _ _ _ (Own w [] [Res.row b2 47 [Vn s1_, Vn q2_, Vj op3_, .string k4_, Vi am5_, Vi sp6_, Vn le7_], Res.row b5 47 [Vn s1_, Vn q2_, Vj op3_, .string k4_, Vi am5_, Vi sp6_, Vn le7_], Res.row b8 171 [v, Vj a'8_, .bool bad'9_]])) _ hw
   exact zM (yK (cs := [Vn s1_, Vn q2_, Vj op3_, .string k4_, Vi am5_, Vi sp6_, Vn le7_]) (v := .bool (decide (({ session := s1_, seq := q2_, op := ((op3_ : Nat) : Int), key := k4_, amount := am5_, span := sp6_, lease := le7_ } : CmdD).ok))) rfl rfl rfl (by kernel_rfl) (Own.rowCells (i := 0) rfl) (fun w' hw => ⟨s1_, q2_, ((op3_ : Nat) : Int), k4_, am5_, sp6_, le7_, (decide (({ session := s1_, seq := q2_, op := ((op3_ : Nat) : Int), key := k4_, amount := am5_, span := sp6_, lease := le7_ } : CmdD).ok)), rfl, RefPost.on hf2_1 g3_3 decide_eq_true_iff, hw.drop⟩))
  ·
   refine zc 4 rfl rfl (gF g3_3) rfl hS (zc 5 rfl rfl (gF g3_3) rfl hS (zF 6 rfl (yl (gF g3_3)) hS (zZ 7 rfl hw (zi 0 rfl rfl rfl (z7 rfl) rfl (zG [1] rfl (by decide) (fun w' hw hS => zF 8 rfl (yz) hS (zR ?_)))))))
   refine (?_ : C _ _ _ _ _ _ _ (Own w [] [Res.row b2 47 [Vn s1_, Vn q2_, Vj op3_, .string k4_, Vi am5_, Vi sp6_, Vn le7_], Res.row b5 47 [Vn s1_, Vn q2_, Vj op3_, .string k4_, Vi am5_, Vi sp6_, Vn le7_], Res.row b8 171 [v, Vj a'8_, .bool bad'9_]])) _ hw
   exact zM (yK (cs := [Vn s1_, Vn q2_, Vj op3_, .string k4_, Vi am5_, Vi sp6_, Vn le7_]) (v := .bool false) rfl rfl rfl (by kernel_rfl) (Own.rowCells (i := 0) rfl) (fun w' hw => ⟨s1_, q2_, ((op3_ : Nat) : Int), k4_, am5_, sp6_, le7_, false, rfl, RefPost.off hf2_1 g3_3, hw.drop⟩))
end Go.Proofs.YthincafbmpialaaGreat
