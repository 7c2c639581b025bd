import Derived.Test.YthincafbmpialaaGreatFwN
set_option linter.unusedSectionVars false
set_option linter.unusedSimpArgs false
set_option linter.unusedVariables false
set_option maxRecDepth 10000
namespace Go.Proofs.YthincafbmpialaaGreat
open Go Go.Sc Go.Proofs
def yT (n : Nat) : Int := if n ≤ 9223372036854775807 then n else (n : Int) - 18446744073709551616
theorem xD {n : Nat} (h : n < 18446744073709551616) : IntKind.i64.wrap (n : Int) = yT n := by
  rw [zMO (by omega)]; unfold yT; split <;> split <;> omega
theorem zAW {n : Nat} (h : n < 18446744073709551616) : u64 (yT n) = n := by unfold yT u64; split <;> omega
theorem RdS.int {most : Nat} {b : List UInt8} {a a1 n : Nat} {bad bad1 : Bool} (h : RdS (jB most) b a bad n a1 bad1) : RdS (zEM most) b a bad (n : Int) a1 bad1 := RdS.map (fun n : Nat => (n : Int)) h
structure CmdD where
  session : Nat
  seq : Nat
  op : Int
  key : ByteArray
  amount : Int
  span : Int
  lease : Nat
  deriving DecidableEq
structure CmdD.wf (x : CmdD) : Prop where
  session : x.session < 18446744073709551616
  seq : x.seq < 18446744073709551616
  key : x.key.size ≤ 1048576
  amount : xY x.amount
  span : xY x.span
  lease : x.lease < 18446744073709551616
def CmdD.cells (x : CmdD) : List Value := [.int .u64 x.session, .int .u64 x.seq, .int .i64 x.op, .string x.key, .int .i64 x.amount, .int .i64 x.span, .int .u64 x.lease]
def CmdD.ok (x : CmdD) : Prop := (1 ≤ x.op ∧ x.op ≤ 5) ∧ x.key.size ≤ 64
instance (x : CmdD) : Decidable x.ok := inferInstanceAs (Decidable ((_ ∧ _) ∧ _))
def zFB (s : ByteArray) : List UInt8 := s.data.toList
theorem jE (s : ByteArray) : (zFB s).length = s.size := by unfold zFB; rw [Array.length_toList]; rfl
def CmdD.enc (x : CmdD) : List UInt8 := y7 [x.session, x.seq, u64 x.op] ++ dat (zFB x.key) ++ y7 [u64 x.amount, u64 x.span, x.lease]
structure RepD where
  session : Nat
  seq : Nat
  e : Int
  lease : Nat
  amount : Int
  until_ : Int
  deriving DecidableEq
structure RepD.wf (r : RepD) : Prop where
  session : r.session < 18446744073709551616
  seq : r.seq < 18446744073709551616
  lease : r.lease < 18446744073709551616
  amount : xY r.amount
  until_ : xY r.until_
def RepD.cells (r : RepD) : List Value := [.int .u64 r.session, .int .u64 r.seq, .int .i64 r.e, .int .u64 r.lease, .int .i64 r.amount, .int .i64 r.until_]
def RepD.ok (r : RepD) : Prop := 0 ≤ r.e ∧ r.e ≤ 20
instance (r : RepD) : Decidable r.ok := inferInstanceAs (Decidable (_ ∧ _))
def RepD.enc (r : RepD) : List UInt8 := y7 [r.session, r.seq, u64 r.e, r.lease, u64 r.amount, u64 r.until_]
theorem zCT (x : CmdD) (w : World) (hx : x.key.size ≤ 1048576) : Rets Tryz.prog 99 #[.agg (CmdD.cells x).toArray] w fun u_ w' => u_ = .bool (decide x.ok) ∧ Own w [] [] w' := by
  refine zW Tryz.func99 rfl Tryz.ntmps99 (Own.start w) ?_
  refine zB (yc rfl rfl (fun b1 => zD rfl (zA (zB (zP (o := 2) rfl rfl (zS 0 (v := Vi x.op) rfl rfl rfl rfl (xC rfl rfl rfl (zC rfl (yP (q := 1 ≤ x.op) 3 3 [9, 8, 7] (x.op ≤ 5) rfl rfl rfl rfl rfl rfl trivial rfl (fun h1_3 => ?_) (fun g1_7 => ?_))))))))))
  ·
   refine zO rfl (gT h1_3) (zP (o := 2) rfl rfl (zO rfl (gT h1_3) (zS 0 (v := Vi x.op) rfl rfl rfl rfl (zO rfl (gT h1_3) (ka rfl rfl rfl ?_)))))
   exact yL rfl (fun _ hw => hw)
  refine zC rfl (yP (q := (1 ≤ x.op) ∧ (x.op ≤ 5)) 4 8 [15, 14, 13, 12] (((x.key.size : Nat) : Int) ≤ 64) rfl rfl rfl rfl rfl rfl trivial rfl (fun h1_8 => ?_) (fun g1_13 => ?_))
  ·
   refine zO rfl (gT h1_8) (zP (o := 3) rfl rfl (zO rfl (gT h1_8) (zS 0 (v := .string x.key) rfl rfl rfl rfl (zO rfl (gT h1_8) (zCc (by kernel_rfl) rfl rfl (zO rfl (gT h1_8) (ka rfl rfl rfl ?_)))))))
   exact yL rfl (fun _ hw => hw)
  refine zD rfl (zA ?_)
  exact zM (z6 (v := .bool (decide (((1 ≤ x.op) ∧ (x.op ≤ 5)) ∧ (((x.key.size : Nat) : Int) ≤ 64)))) rfl rfl (fun w' hw => ⟨(by congr 1; exact decide_eq_decide.2 (by unfold CmdD.ok; omega)), hw.drop⟩))
theorem zFi {S : List Nat} (o : Nat) (sl : Value) (bs : List UInt8) (x : CmdD) (w : World) (hx : x.wf) (hb : bs.length ≤ 1000000000) (hin : Own w S [Res.bv o xi sl bs] w) : Rets Tryz.prog 100 #[.pointer (some ⟨o, 0, none⟩), .agg (CmdD.cells x).toArray] w fun u_ w' => ∃ (sl' : Value), u_ = .tuple #[] ∧ Own w S [Res.bv o xi sl' (bs ++ x.enc)] w' := by
  have hk : x.key.data.toList.length = x.key.size := jE x.key
  have hk2 := hx.key
  have hd := zA2 x.key.data.toList (by omega)
  have hn1 := xv (ns := [x.session, x.seq, u64 x.op]) (by have := hx.session; have := hx.seq; simp [xM, *])
  simp only [List.length_cons, List.length_nil] at hn1
  refine zW Tryz.func100 rfl Tryz.ntmps100 hin ?_
  refine zB (yc rfl rfl (fun b3 => zA (zB (zC rfl (zP (o := 0) rfl rfl (zS 1 (v := Vn x.session) rfl rfl rfl rfl (zP (o := 1) rfl rfl (zS 1 (v := Vn x.seq) rfl rfl rfl rfl (zP (o := 2) rfl rfl (zS 1 (v := Vi x.op) rfl rfl rfl rfl (yw (by kernel_rfl) rfl (xX _) rfl ?_ (by kernel_rfl))))))))))))
  refine yj (e := 28) (sz := 1) (vs := [Vn x.session, Vn x.seq, Vn (u64 x.op)]) (by kernel_rfl) rfl rfl (by simp [Value.cells]) (by decide) rfl (fun b12 => zJ rfl rfl (fun w' hw => (zEA o _ _ (.slice (some ⟨b12, 0, none⟩) 3 3) [x.session, x.seq, u64 x.op] w' (by have := hx.session; have := hx.seq; simp [xM, *]) (by first | omega | (simp <;> omega) | (constructor <;> (first | omega | (simp <;> omega)))) (hw.give [0] rfl (by decide)) (hw.rdVec 2 rfl [0] rfl rfl)).mono ?_))
  rintro _ w1 ⟨sl'1_, rfl, hO⟩
  refine (?_ : CL _ _ _ _ _ _ (Own w S [Res.row b3 47 (CmdD.cells x), Res.vec 28 1 (.slice (some ⟨b12, 0, none⟩) 3 3) [x.session, x.seq, u64 x.op].length ([x.session, x.seq, u64 x.op].flatMap U1), Res.bv o xi sl'1_ (bs ++ y7 [x.session, x.seq, u64 x.op])])) w1 (hw.frameL [0] rfl hO)
  refine zA (zB (zC rfl (zP (o := 3) rfl rfl (zS 0 (v := .string x.key) rfl rfl rfl rfl (zIw (by kernel_rfl) (by kernel_rfl) rfl (by rw [xH]; omega) rfl (fun v17 => ?_))))))
  refine yS (fun w' hw => Sl.cell1 (Own.holds hw 3 _ rfl)) (fun hc1_ => ?_)
  refine zCq (e := 52) (vs := [v17]) (by kernel_rfl) rfl rfl (zn hc1_ yt) (by decide) rfl (fun b18 => zJ rfl rfl (fun w' hw => (zIq o sl'1_ (bs ++ y7 [x.session, x.seq, u64 x.op]) (.slice (some ⟨b18, 0, none⟩) 1 1) [(v17, x.key.data.toList)] w' (by simp [yJ]; omega) (by show 1 ≤ _; omega) (hw.give [2] rfl (by decide)) (hw.rdVec 4 rfl [2] rfl rfl) (all_cons (hw.rdRes 3 rfl [2] rfl rfl) (fun p hp => by cases hp))).mono ?_))
  rintro _ w1 ⟨sl'2_, rfl, hO⟩
  refine (?_ : CL _ _ _ _ _ _ (Own w S [Res.row b3 47 (CmdD.cells x), Res.vec 28 1 (.slice (some ⟨b12, 0, none⟩) 3 3) [x.session, x.seq, u64 x.op].length ([x.session, x.seq, u64 x.op].flatMap U1), Res.sl v17 x.key.data.toList.length (x.key.data.toList.map vb), Res.vec 52 1 (.slice (some ⟨b18, 0, none⟩) 1 1) [(v17, x.key.data.toList)].length ([(v17, x.key.data.toList)].flatMap pv), Res.bv o xi sl'2_ ((bs ++ y7 [x.session, x.seq, u64 x.op]) ++ yJ [(v17, x.key.data.toList)])])) w1 (hw.frameL [2] rfl hO)
  refine zA (zd (zC rfl (zP (o := 4) rfl rfl (zS 0 (v := Vi x.amount) rfl rfl rfl rfl (yw (by kernel_rfl) rfl (xX _) rfl ?_ (by kernel_rfl))))))
  refine zP (o := 5) rfl rfl (zS 0 (v := Vi x.span) rfl rfl rfl rfl (yw (by kernel_rfl) rfl (xX _) rfl ?_ (by kernel_rfl)))
  refine zP (o := 6) rfl rfl (zS 0 (v := Vn x.lease) rfl rfl rfl rfl (yj (e := 28) (sz := 1) (vs := [Vn (u64 x.amount), Vn (u64 x.span), Vn x.lease]) (by kernel_rfl) rfl rfl (by simp [Value.cells]) (by decide) rfl (fun b29 => zJ rfl rfl (fun w' hw => (zEA o sl'2_ ((bs ++ y7 [x.session, x.seq, u64 x.op]) ++ yJ [(v17, x.key.data.toList)]) (.slice (some ⟨b29, 0, none⟩) 3 3) [u64 x.amount, u64 x.span, x.lease] w' (by have := hx.lease; simp [xM, *]) (by simp [yJ]; omega) (hw.give [4] rfl (by decide)) (hw.rdVec 5 rfl [4] rfl rfl)).mono ?_))))
  rintro _ w1 ⟨sl'3_, rfl, hO⟩
  refine (?_ : CL _ _ _ _ _ _ (Own w S [Res.row b3 47 (CmdD.cells x), Res.vec 28 1 (.slice (some ⟨b12, 0, none⟩) 3 3) [x.session, x.seq, u64 x.op].length ([x.session, x.seq, u64 x.op].flatMap U1), Res.sl v17 x.key.data.toList.length (x.key.data.toList.map vb), Res.vec 52 1 (.slice (some ⟨b18, 0, none⟩) 1 1) [(v17, x.key.data.toList)].length ([(v17, x.key.data.toList)].flatMap pv), Res.vec 28 1 (.slice (some ⟨b29, 0, none⟩) 3 3) [u64 x.amount, u64 x.span, x.lease].length ([u64 x.amount, u64 x.span, x.lease].flatMap U1), Res.bv o xi sl'3_ (((bs ++ y7 [x.session, x.seq, u64 x.op]) ++ yJ [(v17, x.key.data.toList)]) ++ y7 [u64 x.amount, u64 x.span, x.lease])])) w1 (hw.frameL [4] rfl hO)
  exact zj (jq rfl (fun w' hw => ⟨sl'3_, rfl, by have h := hw.one 5 rfl; simpa [CmdD.enc, yJ, zFB] using h⟩))
theorem zCV (w : World) : Rets Tryz.prog 60 #[] w fun u_ w' => u_ = .agg #[.func (.func 99) #[] #[], .func (.func 100) #[] #[], .func (.func 103) #[] #[]] ∧ Own w [] [] w' := by
  refine zW Tryz.func60 rfl Tryz.ntmps60 (Own.start w) ?_
  refine zB (yF (v := .agg #[.nilFunc, .nilFunc, .nilFunc]) (by kernel_rfl) rfl (fun b0 => zA (zB (yQ (cs := [.func (.func 99) #[] #[], .func (.func 100) #[] #[], .func (.func 103) #[] #[]]) (z := [.nilFunc, .nilFunc, .nilFunc]) (pl := [(0, 1), (1, 1), (2, 1)]) (by kernel_rfl) (by kernel_rfl) rfl (zh 0 rfl rfl rfl (z8 rfl) rfl (zA ?_))))))
  exact zM (ji (cs := [.func (.func 99) #[] #[], .func (.func 100) #[] #[], .func (.func 103) #[] #[]]) rfl rfl (by kernel_rfl) (Own.rowCells (i := 0) rfl) (fun w' hw => ⟨rfl, hw.drop⟩))
theorem zFb (x : CmdD) (w : World) (hx : x.wf) : Rets Tryz.prog 61 #[.agg #[.func (.func 99) #[] #[], .func (.func 100) #[] #[], .func (.func 103) #[] #[]], .agg (CmdD.cells x).toArray] w fun u_ w' => ∃ (r : Value), u_ = .tuple #[r, Vi (yy x.ok)] ∧ Own w [] [Res.vec 5 1 r (if x.ok then x.enc else []).length ((if x.ok then x.enc else []).map vb)] w' := by
  have hk := hx.key
  refine zW Tryz.func61 rfl Tryz.ntmps61 (Own.start w) ?_
  refine zB (yc rfl rfl (fun b2 => yc rfl rfl (fun b3 => zD rfl (zD rfl (zA (zL (zB (zP (o := 0) rfl rfl (zS 0 (v := .func (.func 99) #[] #[]) rfl rfl rfl rfl (yN (cs := (CmdD.cells x)) 1 rfl rfl rfl (xI (fst := []) (cap := []) rfl (by kernel_rfl) rfl rfl (fun w' hw => (zCT x w' (by first | omega | (simp <;> omega))).mono ?_))))))))))))
  rintro _ w1 ⟨rfl, hO⟩
  refine (?_ : CL _ _ _ _ _ _ (Own w [] [Res.row b2 121 [.func (.func 99) #[] #[], .func (.func 100) #[] #[], .func (.func 103) #[] #[]], Res.row b3 47 (CmdD.cells x)])) w1 (hw.frame0 hO)
  refine xo (q := x.ok) rfl rfl (zA (zU rfl (fun c1 => ?_) (fun c1 => ?_)))
  ·
   refine zB (zD rfl (zD rfl (zA ?_)))
   exact zM (xK (v := .slice none 0 0) (v' := Vi 2) rfl rfl rfl (fun w' hw => ⟨.slice none 0 0, (by rw [zDn c1]), by rw [if_neg c1]; exact (yK hw T8 1).one 2 rfl⟩))
  ·
   refine zK (zB (yQ (cs := [.slice none 0 0]) (z := [.slice none 0 0]) (pl := [(0, 1)]) (by kernel_rfl) (by kernel_rfl) rfl (yc rfl rfl (fun b13 => zD rfl (zA (zB (zP (o := 1) rfl rfl (zS 0 (v := .func (.func 100) #[] #[]) rfl rfl rfl rfl (zC rfl (yN (cs := (CmdD.cells x)) 1 rfl rfl rfl ?_))))))))))
   refine zBM [Res.row b2 121 [.func (.func 99) #[] #[], .func (.func 100) #[] #[], .func (.func 103) #[] #[]], Res.row b3 47 (CmdD.cells x), Res.bv b13 xi (.slice none 0 0) ([] : List UInt8)] (fun w' hw => (yK hw T8 1).joinBv (i := 2) (j := 3) (by decide) rfl rfl) ?_
   refine xI (fst := []) (cap := []) rfl (by kernel_rfl) rfl rfl (fun w' hw => (zFi b13 (.slice none 0 0) ([] : List UInt8) x w' ‹_› (by first | omega | (simp <;> omega) | (constructor <;> (first | omega | (simp <;> omega)))) (hw.give [2] rfl (by decide))).mono ?_)
   rintro _ w1 ⟨sl'1_, rfl, hO⟩
   refine (?_ : CL _ _ _ _ _ _ (Own w [] [Res.row b2 121 [.func (.func 99) #[] #[], .func (.func 100) #[] #[], .func (.func 103) #[] #[]], Res.row b3 47 (CmdD.cells x), Res.bv b13 xi sl'1_ (([] : List UInt8) ++ x.enc)])) w1 (hw.frameL [2] rfl hO)
   refine zA (zB (zC rfl (zm rfl rfl (zP (o := 0) rfl rfl ?_))))
   refine zBM [Res.row b2 121 [.func (.func 99) #[] #[], .func (.func 100) #[] #[], .func (.func 103) #[] #[]], Res.row b3 47 (CmdD.cells x), Res.row b13 xi [sl'1_], Res.vec 5 1 sl'1_ (([] : List UInt8) ++ x.enc).length ((([] : List UInt8) ++ x.enc).map vb)] (fun w' hw => hw.splitBv (i := 2) (o := b13) (T := xi) (v := sl'1_) (bs := (([] : List UInt8) ++ x.enc)) rfl) ?_
   refine zS 2 (v := sl'1_) rfl rfl rfl rfl (zD rfl (zD rfl (zA ?_)))
   exact zM (xK (v := sl'1_) (v' := Vi 0) rfl rfl rfl (fun w' hw => ⟨sl'1_, (by rw [zEJ (Decidable.not_not.1 c1)]), by rw [if_pos (Decidable.not_not.1 c1)]; exact hw.one 3 rfl⟩))
theorem zEK (x : CmdD) (w : World) (hx : x.wf) : Rets Tryz.prog 25 #[.agg (CmdD.cells x).toArray] w fun u_ w' => ∃ (r : Value), u_ = .tuple #[r, Vi (yy x.ok)] ∧ Own w [] [Res.vec 5 1 r (if x.ok then x.enc else []).length ((if x.ok then x.enc else []).map vb)] w' := by
  refine zW Tryz.func25 rfl Tryz.ntmps25 (Own.start w) ?_
  refine zB (yc rfl rfl (fun b1 => zD rfl (zD rfl (zA (zL (zg [0] rfl (by decide) (by kernel_rfl) (fun w' hw hS => zF 1 rfl (kI (cs := (CmdD.cells x)) 0 rfl rfl) hS (zY 0 rfl hw (zJ rfl rfl (fun w' hw => (zCV w').mono ?_))))))))))
  rintro _ w1 ⟨rfl, hO⟩
  refine (?_ : CL _ _ _ _ _ _ (Own w [] [Res.row b1 47 (CmdD.cells x)])) w1 (hw.frame0 hO)
  refine zG [0] rfl (by decide) (fun w' hw hS => zY 2 rfl hw (zJ rfl rfl (fun w' hw => (zFb x w' ‹_›).mono ?_)))
  rintro _ w1 ⟨r1_, rfl, hO⟩
  refine (?_ : CL _ _ _ _ _ _ (Own w [] [Res.row b1 47 (CmdD.cells x), Res.vec 5 1 r1_ (if x.ok then x.enc else []).length ((if x.ok then x.enc else []).map vb)])) w1 (hw.frame0 hO)
  refine zG [0] rfl (by decide) (fun w' hw hS => zF 3 rfl (ya (vs := [r1_, Vi (yy x.ok)]) rfl rfl) hS (zF 4 rfl (ya (vs := [r1_, Vi (yy x.ok)]) rfl rfl) hS (zF 5 rfl (yx) hS (zF 6 rfl (yx) hS (zR ?_)))))
  refine (?_ : C _ _ _ _ _ _ _ (Own w [] [Res.row b1 47 (CmdD.cells x), Res.vec 5 1 r1_ (if x.ok then x.enc else []).length ((if x.ok then x.enc else []).map vb)])) _ hw
  exact zM (xK (v := r1_) (v' := Vi (yy x.ok)) rfl rfl rfl (fun w' hw => ⟨r1_, rfl, hw.sel [1] rfl (by decide)⟩))
theorem zCl (x : RepD) (w : World) : Rets Tryz.prog 110 #[.agg (RepD.cells x).toArray] w fun u_ w' => u_ = .bool (decide x.ok) ∧ Own w [] [] w' := by
  refine zW Tryz.func110 rfl Tryz.ntmps110 (Own.start w) ?_
  refine zB (yc rfl rfl (fun b1 => zD rfl (zA (zB (zP (o := 2) rfl rfl (zS 0 (v := Vi x.e) rfl rfl rfl rfl (xC rfl rfl rfl (zC rfl (yP (q := 0 ≤ x.e) 3 3 [9, 8, 7] (x.e ≤ 20) rfl rfl rfl rfl rfl rfl trivial rfl (fun h1_3 => ?_) (fun g1_7 => ?_))))))))))
  ·
   refine zO rfl (gT h1_3) (zP (o := 2) rfl rfl (zO rfl (gT h1_3) (zS 0 (v := Vi x.e) rfl rfl rfl rfl (zO rfl (gT h1_3) (ka rfl rfl rfl ?_)))))
   exact yL rfl (fun _ hw => hw)
  refine zD rfl (zA ?_)
  exact zM (z6 (v := .bool (decide ((0 ≤ x.e) ∧ (x.e ≤ 20)))) rfl rfl (fun w' hw => ⟨rfl, hw.drop⟩))
theorem zFy {S : List Nat} (o : Nat) (sl : Value) (bs : List UInt8) (x : RepD) (w : World) (hx : x.wf) (hb : bs.length ≤ 1000000000) (hin : Own w S [Res.bv o xi sl bs] w) : Rets Tryz.prog 111 #[.pointer (some ⟨o, 0, none⟩), .agg (RepD.cells x).toArray] w fun u_ w' => ∃ (sl' : Value), u_ = .tuple #[] ∧ Own w S [Res.bv o xi sl' (bs ++ x.enc)] w' := by
  refine zW Tryz.func111 rfl Tryz.ntmps111 hin ?_
  refine zB (yc rfl rfl (fun b3 => zA (zd (zC rfl (zP (o := 0) rfl rfl (zS 1 (v := Vn x.session) rfl rfl rfl rfl (zP (o := 1) rfl rfl (zS 1 (v := Vn x.seq) rfl rfl rfl rfl (zP (o := 2) rfl rfl (zS 1 (v := Vi x.e) rfl rfl rfl rfl (yw (by kernel_rfl) rfl (xX _) rfl ?_ (by kernel_rfl))))))))))))
  refine zP (o := 3) rfl rfl (zS 1 (v := Vn x.lease) rfl rfl rfl rfl (zP (o := 4) rfl rfl (zS 1 (v := Vi x.amount) rfl rfl rfl rfl (yw (by kernel_rfl) rfl (xX _) rfl ?_ (by kernel_rfl)))))
  refine zP (o := 5) rfl rfl (zS 1 (v := Vi x.until_) rfl rfl rfl rfl (yw (by kernel_rfl) rfl (xX _) rfl ?_ (by kernel_rfl)))
  refine yj (e := 28) (sz := 1) (vs := [Vn x.session, Vn x.seq, Vn (u64 x.e), Vn x.lease, Vn (u64 x.amount), Vn (u64 x.until_)]) (by kernel_rfl) rfl rfl (by simp [Value.cells]) (by decide) rfl (fun b20 => zJ rfl rfl (fun w' hw => (zEA o _ _ (.slice (some ⟨b20, 0, none⟩) 6 6) [x.session, x.seq, u64 x.e, x.lease, u64 x.amount, u64 x.until_] w' (by have := hx.session; have := hx.seq; have := hx.lease; simp [xM, *]) (by first | omega | (simp <;> omega) | (constructor <;> (first | omega | (simp <;> omega)))) (hw.give [0] rfl (by decide)) (hw.rdVec 2 rfl [0] rfl rfl)).mono ?_))
  rintro _ w1 ⟨sl'1_, rfl, hO⟩
  refine (?_ : CL _ _ _ _ _ _ (Own w S [Res.row b3 43 (RepD.cells x), Res.vec 28 1 (.slice (some ⟨b20, 0, none⟩) 6 6) [x.session, x.seq, u64 x.e, x.lease, u64 x.amount, u64 x.until_].length ([x.session, x.seq, u64 x.e, x.lease, u64 x.amount, u64 x.until_].flatMap U1), Res.bv o xi sl'1_ (bs ++ y7 [x.session, x.seq, u64 x.e, x.lease, u64 x.amount, u64 x.until_])])) w1 (hw.frameL [0] rfl hO)
  exact zj (jq rfl (fun w' hw => ⟨sl'1_, rfl, hw.sel [2] rfl (by decide)⟩))
theorem zDe (w : World) : Rets Tryz.prog 74 #[] w fun u_ w' => u_ = .agg #[.func (.func 110) #[] #[], .func (.func 111) #[] #[], .func (.func 112) #[] #[]] ∧ Own w [] [] w' := by
  refine zW Tryz.func74 rfl Tryz.ntmps74 (Own.start w) ?_
  refine zB (yF (v := .agg #[.nilFunc, .nilFunc, .nilFunc]) (by kernel_rfl) rfl (fun b0 => zA (zB (yQ (cs := [.func (.func 110) #[] #[], .func (.func 111) #[] #[], .func (.func 112) #[] #[]]) (z := [.nilFunc, .nilFunc, .nilFunc]) (pl := [(0, 1), (1, 1), (2, 1)]) (by kernel_rfl) (by kernel_rfl) rfl (zh 0 rfl rfl rfl (z8 rfl) rfl (zA ?_))))))
  exact zM (ji (cs := [.func (.func 110) #[] #[], .func (.func 111) #[] #[], .func (.func 112) #[] #[]]) rfl rfl (by kernel_rfl) (Own.rowCells (i := 0) rfl) (fun w' hw => ⟨rfl, hw.drop⟩))
theorem zFv (x : RepD) (w : World) (hx : x.wf) : Rets Tryz.prog 91 #[.agg #[.func (.func 110) #[] #[], .func (.func 111) #[] #[], .func (.func 112) #[] #[]], .agg (RepD.cells x).toArray] w fun u_ w' => ∃ (r : Value), u_ = .tuple #[r, Vi (yy x.ok)] ∧ Own w [] [Res.vec 5 1 r (if x.ok then x.enc else []).length ((if x.ok then x.enc else []).map vb)] w' := by
  refine zW Tryz.func91 rfl Tryz.ntmps91 (Own.start w) ?_
  refine zB (yc rfl rfl (fun b2 => yc rfl rfl (fun b3 => zD rfl (zD rfl (zA (zL (zB (zP (o := 0) rfl rfl (zS 0 (v := .func (.func 110) #[] #[]) rfl rfl rfl rfl (yN (cs := (RepD.cells x)) 1 rfl rfl rfl (xI (fst := []) (cap := []) rfl (by kernel_rfl) rfl rfl (fun w' hw => (zCl x w').mono ?_))))))))))))
  rintro _ w1 ⟨rfl, hO⟩
  refine (?_ : CL _ _ _ _ _ _ (Own w [] [Res.row b2 137 [.func (.func 110) #[] #[], .func (.func 111) #[] #[], .func (.func 112) #[] #[]], Res.row b3 43 (RepD.cells x)])) w1 (hw.frame0 hO)
  refine xo (q := x.ok) rfl rfl (zA (zU rfl (fun c1 => ?_) (fun c1 => ?_)))
  ·
   refine zB (zD rfl (zD rfl (zA ?_)))
   exact zM (xK (v := .slice none 0 0) (v' := Vi 2) rfl rfl rfl (fun w' hw => ⟨.slice none 0 0, (by rw [zDn c1]), by rw [if_neg c1]; exact (yK hw T8 1).one 2 rfl⟩))
  ·
   refine zK (zB (yQ (cs := [.slice none 0 0]) (z := [.slice none 0 0]) (pl := [(0, 1)]) (by kernel_rfl) (by kernel_rfl) rfl (yc rfl rfl (fun b13 => zD rfl (zA (zB (zP (o := 1) rfl rfl (zS 0 (v := .func (.func 111) #[] #[]) rfl rfl rfl rfl (zC rfl (yN (cs := (RepD.cells x)) 1 rfl rfl rfl ?_))))))))))
   refine zBM [Res.row b2 137 [.func (.func 110) #[] #[], .func (.func 111) #[] #[], .func (.func 112) #[] #[]], Res.row b3 43 (RepD.cells x), Res.bv b13 xi (.slice none 0 0) ([] : List UInt8)] (fun w' hw => (yK hw T8 1).joinBv (i := 2) (j := 3) (by decide) rfl rfl) ?_
   refine xI (fst := []) (cap := []) rfl (by kernel_rfl) rfl rfl (fun w' hw => (zFy b13 (.slice none 0 0) ([] : List UInt8) x w' ‹_› (by first | omega | (simp <;> omega) | (constructor <;> (first | omega | (simp <;> omega)))) (hw.give [2] rfl (by decide))).mono ?_)
   rintro _ w1 ⟨sl'1_, rfl, hO⟩
   refine (?_ : CL _ _ _ _ _ _ (Own w [] [Res.row b2 137 [.func (.func 110) #[] #[], .func (.func 111) #[] #[], .func (.func 112) #[] #[]], Res.row b3 43 (RepD.cells x), Res.bv b13 xi sl'1_ (([] : List UInt8) ++ x.enc)])) w1 (hw.frameL [2] rfl hO)
   refine zA (zB (zC rfl (zm rfl rfl (zP (o := 0) rfl rfl ?_))))
   refine zBM [Res.row b2 137 [.func (.func 110) #[] #[], .func (.func 111) #[] #[], .func (.func 112) #[] #[]], Res.row b3 43 (RepD.cells x), Res.row b13 xi [sl'1_], Res.vec 5 1 sl'1_ (([] : List UInt8) ++ x.enc).length ((([] : List UInt8) ++ x.enc).map vb)] (fun w' hw => hw.splitBv (i := 2) (o := b13) (T := xi) (v := sl'1_) (bs := (([] : List UInt8) ++ x.enc)) rfl) ?_
   refine zS 2 (v := sl'1_) rfl rfl rfl rfl (zD rfl (zD rfl (zA ?_)))
   exact zM (xK (v := sl'1_) (v' := Vi 0) rfl rfl rfl (fun w' hw => ⟨sl'1_, (by rw [zEJ (Decidable.not_not.1 c1)]), by rw [if_pos (Decidable.not_not.1 c1)]; exact hw.one 3 rfl⟩))
theorem zAv (x : RepD) (w : World) (hx : x.wf) : Rets Tryz.prog 53 #[.agg (RepD.cells x).toArray] w fun u_ w' => ∃ (r : Value), u_ = .tuple #[r, Vi (yy x.ok)] ∧ Own w [] [Res.vec 5 1 r (if x.ok then x.enc else []).length ((if x.ok then x.enc else []).map vb)] w' := by
  refine zW Tryz.func53 rfl Tryz.ntmps53 (Own.start w) ?_
  refine zB (yc rfl rfl (fun b1 => zD rfl (zD rfl (zA (zL (zg [0] rfl (by decide) (by kernel_rfl) (fun w' hw hS => zF 1 rfl (kI (cs := (RepD.cells x)) 0 rfl rfl) hS (zY 0 rfl hw (zJ rfl rfl (fun w' hw => (zDe w').mono ?_))))))))))
  rintro _ w1 ⟨rfl, hO⟩
  refine (?_ : CL _ _ _ _ _ _ (Own w [] [Res.row b1 43 (RepD.cells x)])) w1 (hw.frame0 hO)
  refine zG [0] rfl (by decide) (fun w' hw hS => zY 2 rfl hw (zJ rfl rfl (fun w' hw => (zFv x w' ‹_›).mono ?_)))
  rintro _ w1 ⟨r1_, rfl, hO⟩
  refine (?_ : CL _ _ _ _ _ _ (Own w [] [Res.row b1 43 (RepD.cells x), Res.vec 5 1 r1_ (if x.ok then x.enc else []).length ((if x.ok then x.enc else []).map vb)])) w1 (hw.frame0 hO)
  refine zG [0] rfl (by decide) (fun w' hw hS => zF 3 rfl (ya (vs := [r1_, Vi (yy x.ok)]) rfl rfl) hS (zF 4 rfl (ya (vs := [r1_, Vi (yy x.ok)]) rfl rfl) hS (zF 5 rfl (yx) hS (zF 6 rfl (yx) hS (zR ?_)))))
  refine (?_ : C _ _ _ _ _ _ _ (Own w [] [Res.row b1 43 (RepD.cells x), Res.vec 5 1 r1_ (if x.ok then x.enc else []).length ((if x.ok then x.enc else []).map vb)])) _ hw
  exact zM (xK (v := r1_) (v' := Vi (yy x.ok)) rfl rfl rfl (fun w' hw => ⟨r1_, rfl, hw.sel [1] rfl (by decide)⟩))
def jv (l : List UInt8) : ByteArray := ⟨l.toArray⟩
def zLg : List UInt8 → Nat → Option (CmdD × Nat) := yE yW fun s => yE yW fun q => yE (zEM 5) fun o => yE y0 fun k => yE yW fun a => yE yW fun p => yE yW fun l => yk ⟨s, q, o, jv k, yT a, yT p, l⟩
def zMe : List UInt8 → Nat → Option (RepD × Nat) := yE yW fun s => yE yW fun q => yE (zEM 20) fun e => yE yW fun l => yE yW fun a => yE yW fun u => yk ⟨s, q, e, l, yT a, yT u⟩
def zNM : CmdD := ⟨0, 0, 0, ⟨#[]⟩, 0, 0, 0⟩
def zKf : RepD := ⟨0, 0, 0, 0, 0, 0⟩
instance : DecidablePred CmdD.ok := fun x => inferInstance
instance : DecidablePred RepD.ok := fun x => inferInstance
def jp (b : List UInt8) : Option CmdD := jy zLg CmdD.ok b
def jQ (b : List UInt8) : Option RepD := jy zMe RepD.ok b
theorem zG5 {S : List Nat} (o : Nat) (v : Value) (b : List UInt8) (a : Nat) (bad : Bool) (w : World) (hl : zb b.length) (ha : a ≤ b.length) (hin : Own w S [Res.row o 185 [v, Vj a, .bool bad]] w) (hb : Rd w S (Res.sl v b.length (b.map vb))) : Rets Tryz.prog 103 #[.pointer (some ⟨o, 0, none⟩)] w fun u_ w' => ∃ (s : Nat) (q : Nat) (op : Nat) (k : ByteArray) (am : Int) (sp : Int) (le : Nat) (a' : Nat) (bad' : Bool), u_ = .agg #[Vn s, Vn q, Vj op, .string k, Vi am, Vi sp, Vn le] ∧ RdS zLg b a bad (⟨s, q, (op : Int), k, am, sp, le⟩ : CmdD) a' bad' ∧ k.size ≤ b.length ∧ Own w S [Res.row o 185 [v, Vj a', .bool bad']] w' := by
  refine zW Tryz.func103 rfl Tryz.ntmps103 hin ?_
  refine zB (yF (v := .agg #[Vn 0, Vn 0, Vi 0, .string (⟨#[]⟩ : ByteArray), Vi 0, Vi 0, Vn 0]) (by kernel_rfl) rfl (fun b2 => zA (zL (zg [] rfl (by decide) (by kernel_rfl) (fun w' hw hS => zF 0 rfl (zQ) hS (zF 2 rfl (zQ) hS (zF 4 rfl (zQ) hS (zF 6 rfl (zQ) hS (zF 9 rfl (zQ) hS (zF 12 rfl (zQ) hS (zF 15 rfl (zQ) hS (zY 1 rfl hw ?_))))))))))))
  refine zJ rfl rfl (fun w' hw => (xP o v b a bad w' (by first | assumption | omega | (simp <;> omega) | (constructor <;> (first | omega | (simp only [zb]; omega) | (simp <;> omega)))) (by first | omega | (simp <;> omega)) (hw.give [0] rfl (by decide)) (hw.rdTo hb [0] rfl)).mono ?_)
  rintro _ w1 ⟨n1_, a'2_, bad'3_, rfl, hf1_1, hf1_1_1, hO⟩
  have hq1 := hf1_1.le
  refine (?_ : CL _ _ _ _ _ _ (Own w S [Res.row b2 47 [Vn 0, Vn 0, Vi 0, .string (⟨#[]⟩ : ByteArray), Vi 0, Vi 0, Vn 0], Res.row o 185 [v, Vj a'2_, .bool bad'3_]])) w1 (hw.frameL [0] rfl hO)
  refine zN 3 rfl (zJ rfl rfl (fun w' hw => (xP o v b a'2_ bad'3_ w' (by first | assumption | omega | (simp <;> omega) | (constructor <;> (first | omega | (simp only [zb]; omega) | (simp <;> omega)))) (by first | omega | (simp <;> omega)) (hw.give [1] rfl (by decide)) (hw.rdTo hb [1] rfl)).mono ?_))
  rintro _ w1 ⟨n4_, a'5_, bad'6_, rfl, hf1_3, hf1_3_1, hO⟩
  have hq2 := hf1_3.le
  refine (?_ : CL _ _ _ _ _ _ (Own w S [Res.row b2 47 [Vn 0, Vn 0, Vi 0, .string (⟨#[]⟩ : ByteArray), Vi 0, Vi 0, Vn 0], Res.row o 185 [v, Vj a'5_, .bool bad'6_]])) w1 (hw.frameL [1] rfl hO)
  refine zN 5 rfl (zJ rfl rfl (fun w' hw => (zBF o v b a'5_ bad'6_ 5 w' (by first | assumption | omega | (simp <;> omega) | (constructor <;> (first | omega | (simp only [zb]; omega) | (simp <;> omega)))) (by first | omega | (simp <;> omega)) (by first | omega | (simp <;> omega)) (hw.give [1] rfl (by decide)) (hw.rdTo hb [1] rfl)).mono ?_))
  rintro _ w1 ⟨n7_, a'8_, bad'9_, rfl, hf1_5, hf1_5_1, hO⟩
  have hq3 := hf1_5.le
  refine (?_ : CL _ _ _ _ _ _ (Own w S [Res.row b2 47 [Vn 0, Vn 0, Vi 0, .string (⟨#[]⟩ : ByteArray), Vi 0, Vi 0, Vn 0], Res.row o 185 [v, Vj a'8_, .bool bad'9_]])) w1 (hw.frameL [1] rfl hO)
  refine zN 7 rfl (zJ rfl rfl (fun w' hw => (zHn o v b a'8_ bad'9_ w' (by first | assumption | omega | (simp <;> omega) | (constructor <;> (first | omega | (simp only [zb]; omega) | (simp <;> omega)))) (by first | omega | (simp <;> omega)) (hw.give [1] rfl (by decide)) (hw.rdTo hb [1] rfl)).mono ?_))
  rintro r10_ w1 ⟨_, d11_, a'12_, bad'13_, rfl, hf1_7, hf1_7_1, hO⟩
  have hq4 := hf1_7.le
  refine (?_ : CL _ _ _ _ _ _ (Own w S [Res.row b2 47 [Vn 0, Vn 0, Vi 0, .string (⟨#[]⟩ : ByteArray), Vi 0, Vi 0, Vn 0], Res.row o 185 [v, Vj a'12_, .bool bad'13_], Res.vec 5 1 r10_ d11_.length (d11_.map vb)])) w1 (hw.frameL [1] rfl hO)
  refine zG [] rfl (by decide) (fun w' hw hS => zk 8 10 ?_ ?_)
  ·
   refine zX 8 rfl hw (jZ (bs := d11_) (by kernel_rfl) (by kernel_rfl) rfl (fun w' hw' => Vec.sl (Own.holds hw' 2 _ rfl)) rfl (zN 10 rfl (zJ rfl rfl (fun w' hw => (xP o v b a'12_ bad'13_ w' (by first | assumption | omega | (simp <;> omega) | (constructor <;> (first | omega | (simp only [zb]; omega) | (simp <;> omega)))) (by first | omega | (simp <;> omega)) (hw.give [1] rfl (by decide)) (hw.rdTo hb [1] rfl)).mono ?_))))
   rintro _ w1 ⟨n14_, a'15_, bad'16_, rfl, hf1_10, hf1_10_1, hO⟩
   have hq5 := hf1_10.le
   refine (?_ : CL _ _ _ _ _ _ (Own w S [Res.row b2 47 [Vn 0, Vn 0, Vi 0, .string (⟨#[]⟩ : ByteArray), Vi 0, Vi 0, Vn 0], Res.vec 5 1 r10_ d11_.length (d11_.map vb), Res.row o 185 [v, Vj a'15_, .bool bad'16_]])) w1 (hw.frameL [1] rfl hO)
   refine zG [] rfl (by decide) (fun w' hw hS => zF 11 rfl (kx (c := yT n14_) (by kernel_rfl) rfl (xD hf1_10_1) (by kernel_rfl)) hS (zY 13 rfl hw (zJ rfl rfl (fun w' hw => (xP o v b a'15_ bad'16_ w' (by first | assumption | omega | (simp <;> omega) | (constructor <;> (first | omega | (simp only [zb]; omega) | (simp <;> omega)))) (by first | omega | (simp <;> omega)) (hw.give [2] rfl (by decide)) (hw.rdTo hb [2] rfl)).mono ?_))))
   rintro _ w1 ⟨n17_, a'18_, bad'19_, rfl, hf1_13, hf1_13_1, hO⟩
   have hq6 := hf1_13.le
   refine (?_ : CL _ _ _ _ _ _ (Own w S [Res.row b2 47 [Vn 0, Vn 0, Vi 0, .string (⟨#[]⟩ : ByteArray), Vi 0, Vi 0, Vn 0], Res.vec 5 1 r10_ d11_.length (d11_.map vb), Res.row o 185 [v, Vj a'18_, .bool bad'19_]])) w1 (hw.frameL [2] rfl hO)
   refine zG [] rfl (by decide) (fun w' hw hS => zF 14 rfl (kx (c := yT n17_) (by kernel_rfl) rfl (xD hf1_13_1) (by kernel_rfl)) hS (zY 16 rfl hw (zJ rfl rfl (fun w' hw => (xP o v b a'18_ bad'19_ w' (by first | assumption | omega | (simp <;> omega) | (constructor <;> (first | omega | (simp only [zb]; omega) | (simp <;> omega)))) (by first | omega | (simp <;> omega)) (hw.give [2] rfl (by decide)) (hw.rdTo hb [2] rfl)).mono ?_))))
   rintro _ w1 ⟨n20_, a'21_, bad'22_, rfl, hf1_16, hf1_16_1, hO⟩
   refine (?_ : CL _ _ _ _ _ _ (Own w S [Res.row b2 47 [Vn 0, Vn 0, Vi 0, .string (⟨#[]⟩ : ByteArray), Vi 0, Vi 0, Vn 0], Res.vec 5 1 r10_ d11_.length (d11_.map vb), Res.row o 185 [v, Vj a'21_, .bool bad'22_]])) w1 (hw.frameL [2] rfl hO)
   refine zG [] rfl (by decide) (fun w' hw hS => zF 17 rfl (j0 (cs := [Vn n1_, Vn n4_, Vj n7_, .string (⟨d11_.toArray⟩ : ByteArray), Vi (yT n14_), Vi (yT n17_), Vn n20_]) (z := [Vn 0, Vn 0, Vi 0, .string (⟨#[]⟩ : ByteArray), Vi 0, Vi 0, Vn 0]) (pl := [(0, 1), (1, 1), (2, 1), (3, 1), (4, 1), (5, 1), (6, 1)]) (by kernel_rfl) (by kernel_rfl)) hS (zY 18 rfl hw (zh 0 rfl rfl rfl (z8 rfl) rfl (zG [] rfl (by decide) (fun w' hw hS => zR ?_)))))
   refine (?_ : C _ _ _ _ _ _ _ (Own w S [Res.row b2 47 [Vn n1_, Vn n4_, Vj n7_, .string (⟨d11_.toArray⟩ : ByteArray), Vi (yT n14_), Vi (yT n17_), Vn n20_], Res.vec 5 1 r10_ d11_.length (d11_.map vb), Res.row o 185 [v, Vj a'21_, .bool bad'22_]])) _ hw
   exact zM (ji (cs := [Vn n1_, Vn n4_, Vj n7_, .string (⟨d11_.toArray⟩ : ByteArray), Vi (yT n14_), Vi (yT n17_), Vn n20_]) rfl rfl (by kernel_rfl) (Own.rowCells (i := 0) rfl) (fun w' hw => ⟨n1_, n4_, n7_, (⟨d11_.toArray⟩ : ByteArray), yT n14_, yT n17_, n20_, a'21_, bad'22_, rfl, hf1_1.bind (hf1_3.bind (RdS.bind hf1_5.int (hf1_7.bind (hf1_10.bind (hf1_13.bind (hf1_16.bind (RdS.pure _ hf1_16.le))))))), hf1_7_1, hw.sel [2] rfl (by decide)⟩))
  ·
   refine zX 10 rfl hw (zJ rfl rfl (fun w' hw => (xP o v b a'12_ bad'13_ w' (by first | assumption | omega | (simp <;> omega) | (constructor <;> (first | omega | (simp only [zb]; omega) | (simp <;> omega)))) (by first | omega | (simp <;> omega)) (hw.give [1] rfl (by decide)) (hw.rdTo hb [1] rfl)).mono ?_))
   rintro _ w1 ⟨n23_, a'24_, bad'25_, rfl, hf1_10, hf1_10_1, hO⟩
   have hq5 := hf1_10.le
   refine (?_ : CL _ _ _ _ _ _ (Own w S [Res.row b2 47 [Vn 0, Vn 0, Vi 0, .string (⟨#[]⟩ : ByteArray), Vi 0, Vi 0, Vn 0], Res.vec 5 1 r10_ d11_.length (d11_.map vb), Res.row o 185 [v, Vj a'24_, .bool bad'25_]])) w1 (hw.frameL [1] rfl hO)
   refine zG [] rfl (by decide) (fun w' hw hS => zF 11 rfl (kx (c := yT n23_) (by kernel_rfl) rfl (xD hf1_10_1) (by kernel_rfl)) hS (zk 8 13 ?_ ?_))
   ·
    refine zX 8 rfl hw (jZ (bs := d11_) (by kernel_rfl) (by kernel_rfl) rfl (fun w' hw' => Vec.sl (Own.holds hw' 1 _ rfl)) rfl (zN 13 rfl (zJ rfl rfl (fun w' hw => (xP o v b a'24_ bad'25_ w' (by first | assumption | omega | (simp <;> omega) | (constructor <;> (first | omega | (simp only [zb]; omega) | (simp <;> omega)))) (by first | omega | (simp <;> omega)) (hw.give [2] rfl (by decide)) (hw.rdTo hb [2] rfl)).mono ?_))))
    rintro _ w1 ⟨n26_, a'27_, bad'28_, rfl, hf1_13, hf1_13_1, hO⟩
    have hq6 := hf1_13.le
    refine (?_ : CL _ _ _ _ _ _ (Own w S [Res.row b2 47 [Vn 0, Vn 0, Vi 0, .string (⟨#[]⟩ : ByteArray), Vi 0, Vi 0, Vn 0], Res.vec 5 1 r10_ d11_.length (d11_.map vb), Res.row o 185 [v, Vj a'27_, .bool bad'28_]])) w1 (hw.frameL [2] rfl hO)
    refine zG [] rfl (by decide) (fun w' hw hS => zF 14 rfl (kx (c := yT n26_) (by kernel_rfl) rfl (xD hf1_13_1) (by kernel_rfl)) hS (zY 16 rfl hw (zJ rfl rfl (fun w' hw => (xP o v b a'27_ bad'28_ w' (by first | assumption | omega | (simp <;> omega) | (constructor <;> (first | omega | (simp only [zb]; omega) | (simp <;> omega)))) (by first | omega | (simp <;> omega)) (hw.give [2] rfl (by decide)) (hw.rdTo hb [2] rfl)).mono ?_))))
    rintro _ w1 ⟨n29_, a'30_, bad'31_, rfl, hf1_16, hf1_16_1, hO⟩
    refine (?_ : CL _ _ _ _ _ _ (Own w S [Res.row b2 47 [Vn 0, Vn 0, Vi 0, .string (⟨#[]⟩ : ByteArray), Vi 0, Vi 0, Vn 0], Res.vec 5 1 r10_ d11_.length (d11_.map vb), Res.row o 185 [v, Vj a'30_, .bool bad'31_]])) w1 (hw.frameL [2] rfl hO)
    refine zG [] rfl (by decide) (fun w' hw hS => zF 17 rfl (j0 (cs := [Vn n1_, Vn n4_, Vj n7_, .string (⟨d11_.toArray⟩ : ByteArray), Vi (yT n23_), Vi (yT n26_), Vn n29_]) (z := [Vn 0, Vn 0, Vi 0, .string (⟨#[]⟩ : ByteArray), Vi 0, Vi 0, Vn 0]) (pl := [(0, 1), (1, 1), (2, 1), (3, 1), (4, 1), (5, 1), (6, 1)]) (by kernel_rfl) (by kernel_rfl)) hS (zY 18 rfl hw (zh 0 rfl rfl rfl (z8 rfl) rfl (zG [] rfl (by decide) (fun w' hw hS => zR ?_)))))
    refine (?_ : C _ _ _ _ _ _ _ (Own w S [Res.row b2 47 [Vn n1_, Vn n4_, Vj n7_, .string (⟨d11_.toArray⟩ : ByteArray), Vi (yT n23_), Vi (yT n26_), Vn n29_], Res.vec 5 1 r10_ d11_.length (d11_.map vb), Res.row o 185 [v, Vj a'30_, .bool bad'31_]])) _ hw
    exact zM (ji (cs := [Vn n1_, Vn n4_, Vj n7_, .string (⟨d11_.toArray⟩ : ByteArray), Vi (yT n23_), Vi (yT n26_), Vn n29_]) rfl rfl (by kernel_rfl) (Own.rowCells (i := 0) rfl) (fun w' hw => ⟨n1_, n4_, n7_, (⟨d11_.toArray⟩ : ByteArray), yT n23_, yT n26_, n29_, a'30_, bad'31_, rfl, hf1_1.bind (hf1_3.bind (RdS.bind hf1_5.int (hf1_7.bind (hf1_10.bind (hf1_13.bind (hf1_16.bind (RdS.pure _ hf1_16.le))))))), hf1_7_1, hw.sel [2] rfl (by decide)⟩))
   ·
    refine zX 13 rfl hw (zJ rfl rfl (fun w' hw => (xP o v b a'24_ bad'25_ w' (by first | assumption | omega | (simp <;> omega) | (constructor <;> (first | omega | (simp only [zb]; omega) | (simp <;> omega)))) (by first | omega | (simp <;> omega)) (hw.give [2] rfl (by decide)) (hw.rdTo hb [2] rfl)).mono ?_))
    rintro _ w1 ⟨n32_, a'33_, bad'34_, rfl, hf1_13, hf1_13_1, hO⟩
    have hq6 := hf1_13.le
    refine (?_ : CL _ _ _ _ _ _ (Own w S [Res.row b2 47 [Vn 0, Vn 0, Vi 0, .string (⟨#[]⟩ : ByteArray), Vi 0, Vi 0, Vn 0], Res.vec 5 1 r10_ d11_.length (d11_.map vb), Res.row o 185 [v, Vj a'33_, .bool bad'34_]])) w1 (hw.frameL [2] rfl hO)
    refine zG [] rfl (by decide) (fun w' hw hS => zF 14 rfl (kx (c := yT n32_) (by kernel_rfl) rfl (xD hf1_13_1) (by kernel_rfl)) hS (zk 8 16 ?_ ?_))
    ·
     refine zX 8 rfl hw (jZ (bs := d11_) (by kernel_rfl) (by kernel_rfl) rfl (fun w' hw' => Vec.sl (Own.holds hw' 1 _ rfl)) rfl (zN 16 rfl (zJ rfl rfl (fun w' hw => (xP o v b a'33_ bad'34_ w' (by first | assumption | omega | (simp <;> omega) | (constructor <;> (first | omega | (simp only [zb]; omega) | (simp <;> omega)))) (by first | omega | (simp <;> omega)) (hw.give [2] rfl (by decide)) (hw.rdTo hb [2] rfl)).mono ?_))))
     rintro _ w1 ⟨n35_, a'36_, bad'37_, rfl, hf1_16, hf1_16_1, hO⟩
     refine (?_ : CL _ _ _ _ _ _ (Own w S [Res.row b2 47 [Vn 0, Vn 0, Vi 0, .string (⟨#[]⟩ : ByteArray), Vi 0, Vi 0, Vn 0], Res.vec 5 1 r10_ d11_.length (d11_.map vb), Res.row o 185 [v, Vj a'36_, .bool bad'37_]])) w1 (hw.frameL [2] rfl hO)
     refine zG [] rfl (by decide) (fun w' hw hS => zF 17 rfl (j0 (cs := [Vn n1_, Vn n4_, Vj n7_, .string (⟨d11_.toArray⟩ : ByteArray), Vi (yT n23_), Vi (yT n32_), Vn n35_]) (z := [Vn 0, Vn 0, Vi 0, .string (⟨#[]⟩ : ByteArray), Vi 0, Vi 0, Vn 0]) (pl := [(0, 1), (1, 1), (2, 1), (3, 1), (4, 1), (5, 1), (6, 1)]) (by kernel_rfl) (by kernel_rfl)) hS (zY 18 rfl hw (zh 0 rfl rfl rfl (z8 rfl) rfl (zG [] rfl (by decide) (fun w' hw hS => zR ?_)))))
     refine (?_ : C _ _ _ _ _ _ _ (Own w S [Res.row b2 47 [Vn n1_, Vn n4_, Vj n7_, .string (⟨d11_.toArray⟩ : ByteArray), Vi (yT n23_), Vi (yT n32_), Vn n35_], Res.vec 5 1 r10_ d11_.length (d11_.map vb), Res.row o 185 [v, Vj a'36_, .bool bad'37_]])) _ hw
     exact zM (ji (cs := [Vn n1_, Vn n4_, Vj n7_, .string (⟨d11_.toArray⟩ : ByteArray), Vi (yT n23_), Vi (yT n32_), Vn n35_]) rfl rfl (by kernel_rfl) (Own.rowCells (i := 0) rfl) (fun w' hw => ⟨n1_, n4_, n7_, (⟨d11_.toArray⟩ : ByteArray), yT n23_, yT n32_, n35_, a'36_, bad'37_, rfl, hf1_1.bind (hf1_3.bind (RdS.bind hf1_5.int (hf1_7.bind (hf1_10.bind (hf1_13.bind (hf1_16.bind (RdS.pure _ hf1_16.le))))))), hf1_7_1, hw.sel [2] rfl (by decide)⟩))
    ·
     refine zX 16 rfl hw (zJ rfl rfl (fun w' hw => (xP o v b a'33_ bad'34_ w' (by first | assumption | omega | (simp <;> omega) | (constructor <;> (first | omega | (simp only [zb]; omega) | (simp <;> omega)))) (by first | omega | (simp <;> omega)) (hw.give [2] rfl (by decide)) (hw.rdTo hb [2] rfl)).mono ?_))
     rintro _ w1 ⟨n38_, a'39_, bad'40_, rfl, hf1_16, hf1_16_1, hO⟩
     refine (?_ : CL _ _ _ _ _ _ (Own w S [Res.row b2 47 [Vn 0, Vn 0, Vi 0, .string (⟨#[]⟩ : ByteArray), Vi 0, Vi 0, Vn 0], Res.vec 5 1 r10_ d11_.length (d11_.map vb), Res.row o 185 [v, Vj a'39_, .bool bad'40_]])) w1 (hw.frameL [2] rfl hO)
     refine zN 8 rfl (jZ (bs := d11_) (by kernel_rfl) (by kernel_rfl) rfl (fun w' hw' => Vec.sl (Own.holds hw' 1 _ rfl)) rfl (zG [] rfl (by decide) (fun w' hw hS => zF 17 rfl (j0 (cs := [Vn n1_, Vn n4_, Vj n7_, .string (⟨d11_.toArray⟩ : ByteArray), Vi (yT n23_), Vi (yT n32_), Vn n38_]) (z := [Vn 0, Vn 0, Vi 0, .string (⟨#[]⟩ : ByteArray), Vi 0, Vi 0, Vn 0]) (pl := [(0, 1), (1, 1), (2, 1), (3, 1), (4, 1), (5, 1), (6, 1)]) (by kernel_rfl) (by kernel_rfl)) hS (zY 18 rfl hw (zh 0 rfl rfl rfl (z8 rfl) rfl (zG [] rfl (by decide) (fun w' hw hS => zR ?_)))))))
     refine (?_ : C _ _ _ _ _ _ _ (Own w S [Res.row b2 47 [Vn n1_, Vn n4_, Vj n7_, .string (⟨d11_.toArray⟩ : ByteArray), Vi (yT n23_), Vi (yT n32_), Vn n38_], Res.vec 5 1 r10_ d11_.length (d11_.map vb), Res.row o 185 [v, Vj a'39_, .bool bad'40_]])) _ hw
     exact zM (ji (cs := [Vn n1_, Vn n4_, Vj n7_, .string (⟨d11_.toArray⟩ : ByteArray), Vi (yT n23_), Vi (yT n32_), Vn n38_]) rfl rfl (by kernel_rfl) (Own.rowCells (i := 0) rfl) (fun w' hw => ⟨n1_, n4_, n7_, (⟨d11_.toArray⟩ : ByteArray), yT n23_, yT n32_, n38_, a'39_, bad'40_, rfl, hf1_1.bind (hf1_3.bind (RdS.bind hf1_5.int (hf1_7.bind (hf1_10.bind (hf1_13.bind (hf1_16.bind (RdS.pure _ hf1_16.le))))))), hf1_7_1, hw.sel [2] rfl (by decide)⟩))
theorem zFp (v : Value) (b : List UInt8) (w : World) (hl : b.length ≤ 1048576) (hb : Rd w [] (Res.sl v b.length (b.map vb))) : Rets Tryz.prog 95 #[.agg #[.func (.func 99) #[] #[], .func (.func 100) #[] #[], .func (.func 103) #[] #[]], v] w fun u_ w' => ∃ (s : Nat) (q : Nat) (op : Int) (k : ByteArray) (am : Int) (sp : Int) (le : Nat) (e : Int), u_ = .tuple #[.agg #[Vn s, Vn q, Vi op, .string k, Vi am, Vi sp, Vn le], Vi e] ∧ ValPost (jp b) (⟨s, q, op, k, am, sp, le⟩ : CmdD) zNM e ∧ Own w [] [] w' := by
  refine zW Tryz.func95 rfl Tryz.ntmps95 (Own.start w) ?_
  refine zB (yc rfl rfl (fun b2 => yF (v := .agg #[Vn 0, Vn 0, Vi 0, .string (⟨#[]⟩ : ByteArray), Vi 0, Vi 0, Vn 0]) (by kernel_rfl) rfl (fun b4 => zD rfl (zA (zB (zC rfl (zA0 (cs := [v, Vi 0, .bool false]) (z := [.slice none 0 0, Vi 0, .bool false]) (pl := [(0, 1), (1, 1), (2, 1)]) (by kernel_rfl) ⟨(Sl.cell1 (Rd.φ hb)), trivial⟩ (by kernel_rfl) rfl (yc rfl rfl (fun b10 => zD rfl (zA (zB (zP (o := 2) rfl rfl ?_))))))))))))
  refine zS 0 (v := .func (.func 103) #[] #[]) rfl rfl rfl rfl (zC rfl (xI (fst := []) (cap := []) rfl (by kernel_rfl) rfl rfl (fun w' hw => (zG5 b10 v b 0 false w' (by first | assumption | omega | (simp <;> omega) | (constructor <;> (first | omega | (simp only [zb]; omega) | (simp <;> omega)))) (by first | omega | (simp <;> omega)) (hw.give [2] rfl (by decide)) (hw.rdTo hb [2] rfl)).mono ?_)))
  rintro _ w1 ⟨s1_, q2_, op3_, k4_, am5_, sp6_, le7_, a'8_, bad'9_, rfl, hf2_3, hf2_3_1, hO⟩
  refine (?_ : CL _ _ _ _ _ _ (Own w [] [Res.row b2 121 [.func (.func 99) #[] #[], .func (.func 100) #[] #[], .func (.func 103) #[] #[]], Res.row b4 47 [Vn 0, Vn 0, Vi 0, .string (⟨#[]⟩ : ByteArray), Vi 0, Vi 0, Vn 0], Res.row b10 185 [v, Vj a'8_, .bool bad'9_]])) w1 (hw.frameL [2] rfl hO)
  refine zh 1 rfl rfl rfl (z8 rfl) rfl (zA (zL (zB (zC rfl (zm rfl rfl (zP (o := 2) rfl rfl (zS 2 (v := .bool bad'9_) rfl rfl rfl rfl (zC rfl (yY (q := bad'9_ = true) 7 4 [26, 25, 24, 23, 22, 21, 20] (((a'8_ : Nat) : Int) ≠ ((b.length : Nat) : Int)) rfl rfl (yb _) rfl rfl rfl trivial rfl (fun h3_4 => ?_) (fun g3_12 => ?_))))))))))
  ·
   refine zO rfl (bF h3_4) (zC rfl (zO rfl (bF h3_4) (zm rfl rfl (zO rfl (bF h3_4) (zP (o := 1) rfl rfl (zO rfl (bF h3_4) (zS 2 (v := Vj a'8_) rfl rfl rfl rfl (zO rfl (bF h3_4) (zC rfl (zO rfl (bF h3_4) (yC (pR hb) rfl rfl (zO rfl (bF h3_4) ?_))))))))))))
   refine xn rfl rfl rfl ?_
   exact yL rfl (fun _ hw => hw)
  refine zC rfl (yY (q := (bad'9_ = true) ∨ (((a'8_ : Nat) : Int) ≠ ((b.length : Nat) : Int))) 5 13 [33, 32, 31, 30, 29] (¬ (({ session := s1_, seq := q2_, op := ((op3_ : Nat) : Int), key := k4_, amount := am5_, span := sp6_, lease := le7_ } : CmdD).ok)) rfl rfl rfl rfl rfl rfl trivial rfl (fun h3_13 => ?_) (fun g3_19 => ?_))
  ·
   refine zO rfl (gF h3_13) (zP (o := 0) rfl rfl (zO rfl (gF h3_13) (zS 0 (v := .func (.func 99) #[] #[]) rfl rfl rfl rfl (zO rfl (gF h3_13) (yN 1 rfl rfl rfl (zO rfl (gF h3_13) (xI (fst := []) (cap := []) rfl (by kernel_rfl) rfl rfl (fun w' hw => (zCT ({ session := s1_, seq := q2_, op := ((op3_ : Nat) : Int), key := k4_, amount := am5_, span := sp6_, lease := le7_ } : CmdD) w' (by have := hf2_3_1; dsimp only; omega)).mono ?_))))))))
   rintro _ w1 ⟨rfl, hO⟩
   refine (?_ : CL _ _ _ _ _ _ (Own w [] [Res.row b2 121 [.func (.func 99) #[] #[], .func (.func 100) #[] #[], .func (.func 103) #[] #[]], Res.row b4 47 [Vn s1_, Vn q2_, Vj op3_, .string k4_, Vi am5_, Vi sp6_, Vn le7_], Res.row b10 185 [v, Vj a'8_, .bool bad'9_]])) w1 (hw.frame0 hO)
   refine zO rfl (gF h3_13) (xo (q := ({ session := s1_, seq := q2_, op := ((op3_ : Nat) : Int), key := k4_, amount := am5_, span := sp6_, lease := le7_ } : CmdD).ok) rfl rfl ?_)
   exact yL rfl (fun _ hw => hw)
  refine zA (zU rfl (fun c1 => ?_) (fun c1 => ?_))
  ·
   refine zB (yF (v := .agg #[Vn 0, Vn 0, Vi 0, .string (⟨#[]⟩ : ByteArray), Vi 0, Vi 0, Vn 0]) (by kernel_rfl) rfl (fun b7 => zA (zB (yN 3 rfl rfl rfl (zh 1 rfl rfl rfl (z8 rfl) rfl (zD rfl (zA ?_)))))))
   exact zM (yH (cs := [Vn 0, Vn 0, Vi 0, .string (⟨#[]⟩ : ByteArray), Vi 0, Vi 0, Vn 0]) (v := Vi 4) rfl rfl rfl (by kernel_rfl) (Own.rowCells (i := 1) rfl) (fun w' hw => ⟨0, 0, 0, ⟨#[]⟩, 0, 0, 0, 4, rfl, .inr ⟨rfl, zAK hf2_3 (fun h1 h2 h3 => c1.elim (fun h => h.elim (fun h => (by rw [h1] at h; cases h)) (fun h => h (by omega))) (fun h => h h3)), rfl⟩, hw.drop⟩))
  ·
   refine zK (zB (yN 1 rfl rfl rfl (zh 1 rfl rfl rfl (z8 rfl) rfl (zD rfl (zA ?_)))))
   exact zM (yH (cs := [Vn s1_, Vn q2_, Vj op3_, .string k4_, Vi am5_, Vi sp6_, Vn le7_]) (v := Vi 0) rfl rfl rfl (by kernel_rfl) (Own.rowCells (i := 1) rfl) (fun w' hw => ⟨s1_, q2_, ((op3_ : Nat) : Int), k4_, am5_, sp6_, le7_, 0, rfl, .inl ⟨rfl, zAb hf2_3 (by cases h : bad'9_; rfl; exact absurd (.inl (.inl h)) c1) (by have : ¬ (a'8_ : Int) ≠ b.length := fun h => c1 (.inl (.inr h)); omega) (Decidable.not_not.1 fun h => c1 (.inr h))⟩, hw.drop⟩))
theorem zJw (v : Value) (b : List UInt8) (w : World) (hl : b.length ≤ 1048576) (hb : Rd w [] (Res.sl v b.length (b.map vb))) : Rets Tryz.prog 56 #[v] w fun u_ w' => ∃ (s : Nat) (q : Nat) (op : Int) (k : ByteArray) (am : Int) (sp : Int) (le : Nat) (e : Int), u_ = .tuple #[.agg #[Vn s, Vn q, Vi op, .string k, Vi am, Vi sp, Vn le], Vi e] ∧ ValPost (jp b) (⟨s, q, op, k, am, sp, le⟩ : CmdD) zNM e ∧ Own w [] [] w' := by
  refine zW Tryz.func56 rfl Tryz.ntmps56 (Own.start w) ?_
  refine zB (yF (v := .agg #[Vn 0, Vn 0, Vi 0, .string (⟨#[]⟩ : ByteArray), Vi 0, Vi 0, Vn 0]) (by kernel_rfl) rfl (fun b2 => zD rfl (zA (zB (zJ rfl rfl (fun w' hw => (zCV w').mono ?_))))))
  rintro _ w1 ⟨rfl, hO⟩
  refine (?_ : CL _ _ _ _ _ _ (Own w [] [Res.row b2 47 [Vn 0, Vn 0, Vi 0, .string (⟨#[]⟩ : ByteArray), Vi 0, Vi 0, Vn 0]])) w1 (hw.frame0 hO)
  refine zC rfl (zJ rfl rfl (fun w' hw => (zFp v b w' (by first | omega | (simp <;> omega)) (hw.rd0 hb)).mono ?_))
  rintro _ w1 ⟨s1_, q2_, op3_, k4_, am5_, sp6_, le7_, e8_, rfl, hf1_2, hO⟩
  refine (?_ : CL _ _ _ _ _ _ (Own w [] [Res.row b2 47 [Vn 0, Vn 0, Vi 0, .string (⟨#[]⟩ : ByteArray), Vi 0, Vi 0, Vn 0]])) w1 (hw.frame0 hO)
  refine zp (vs := [.agg #[Vn s1_, Vn q2_, Vi op3_, .string k4_, Vi am5_, Vi sp6_, Vn le7_], Vi e8_]) rfl rfl rfl (zp (vs := [.agg #[Vn s1_, Vn q2_, Vi op3_, .string k4_, Vi am5_, Vi sp6_, Vn le7_], Vi e8_]) rfl rfl rfl (zh 0 rfl rfl rfl (z8 rfl) rfl (zD rfl (zA ?_))))
  exact zM (yH (cs := [Vn s1_, Vn q2_, Vi op3_, .string k4_, Vi am5_, Vi sp6_, Vn le7_]) (v := Vi e8_) rfl rfl rfl (by kernel_rfl) (Own.rowCells (i := 0) rfl) (fun w' hw => ⟨s1_, q2_, op3_, k4_, am5_, sp6_, le7_, e8_, rfl, hf1_2, hw.drop⟩))
theorem zEp {S : List Nat} (o : Nat) (v : Value) (b : List UInt8) (a : Nat) (bad : Bool) (w : World) (hl : zb b.length) (ha : a ≤ b.length) (hin : Own w S [Res.row o 185 [v, Vj a, .bool bad]] w) (hb : Rd w S (Res.sl v b.length (b.map vb))) : Rets Tryz.prog 112 #[.pointer (some ⟨o, 0, none⟩)] w fun u_ w' => ∃ (s : Nat) (q : Nat) (op : Nat) (le : Nat) (am : Int) (sp : Int) (a' : Nat) (bad' : Bool), u_ = .agg #[Vn s, Vn q, Vj op, Vn le, Vi am, Vi sp] ∧ RdS zMe b a bad (⟨s, q, (op : Int), le, am, sp⟩ : RepD) a' bad' ∧ Own w S [Res.row o 185 [v, Vj a', .bool bad']] w' := by
  refine zW Tryz.func112 rfl Tryz.ntmps112 hin ?_
  refine zB (yF (v := .agg #[Vn 0, Vn 0, Vi 0, Vn 0, Vi 0, Vi 0]) (by kernel_rfl) rfl (fun b2 => zA (zB (zC rfl (zJ rfl rfl (fun w' hw => (xP o v b a bad w' (by first | assumption | omega | (simp <;> omega) | (constructor <;> (first | omega | (simp only [zb]; omega) | (simp <;> omega)))) (by first | omega | (simp <;> omega)) (hw.give [0] rfl (by decide)) (hw.rdTo hb [0] rfl)).mono ?_))))))
  rintro _ w1 ⟨n1_, a'2_, bad'3_, rfl, hf1_1, hf1_1_1, hO⟩
  have hq1 := hf1_1.le
  refine (?_ : CL _ _ _ _ _ _ (Own w S [Res.row b2 43 [Vn 0, Vn 0, Vi 0, Vn 0, Vi 0, Vi 0], Res.row o 185 [v, Vj a'2_, .bool bad'3_]])) w1 (hw.frameL [0] rfl hO)
  refine zC rfl (zJ rfl rfl (fun w' hw => (xP o v b a'2_ bad'3_ w' (by first | assumption | omega | (simp <;> omega) | (constructor <;> (first | omega | (simp only [zb]; omega) | (simp <;> omega)))) (by first | omega | (simp <;> omega)) (hw.give [1] rfl (by decide)) (hw.rdTo hb [1] rfl)).mono ?_))
  rintro _ w1 ⟨n4_, a'5_, bad'6_, rfl, hf1_3, hf1_3_1, hO⟩
  have hq2 := hf1_3.le
  refine (?_ : CL _ _ _ _ _ _ (Own w S [Res.row b2 43 [Vn 0, Vn 0, Vi 0, Vn 0, Vi 0, Vi 0], Res.row o 185 [v, Vj a'5_, .bool bad'6_]])) w1 (hw.frameL [1] rfl hO)
  refine zC rfl (zJ rfl rfl (fun w' hw => (zBF o v b a'5_ bad'6_ 20 w' (by first | assumption | omega | (simp <;> omega) | (constructor <;> (first | omega | (simp only [zb]; omega) | (simp <;> omega)))) (by first | omega | (simp <;> omega)) (by first | omega | (simp <;> omega)) (hw.give [1] rfl (by decide)) (hw.rdTo hb [1] rfl)).mono ?_))
  rintro _ w1 ⟨n7_, a'8_, bad'9_, rfl, hf1_5, hf1_5_1, hO⟩
  have hq3 := hf1_5.le
  refine (?_ : CL _ _ _ _ _ _ (Own w S [Res.row b2 43 [Vn 0, Vn 0, Vi 0, Vn 0, Vi 0, Vi 0], Res.row o 185 [v, Vj a'8_, .bool bad'9_]])) w1 (hw.frameL [1] rfl hO)
  refine zC rfl (zJ rfl rfl (fun w' hw => (xP o v b a'8_ bad'9_ w' (by first | assumption | omega | (simp <;> omega) | (constructor <;> (first | omega | (simp only [zb]; omega) | (simp <;> omega)))) (by first | omega | (simp <;> omega)) (hw.give [1] rfl (by decide)) (hw.rdTo hb [1] rfl)).mono ?_))
  rintro _ w1 ⟨n10_, a'11_, bad'12_, rfl, hf1_7, hf1_7_1, hO⟩
  have hq4 := hf1_7.le
  refine (?_ : CL _ _ _ _ _ _ (Own w S [Res.row b2 43 [Vn 0, Vn 0, Vi 0, Vn 0, Vi 0, Vi 0], Res.row o 185 [v, Vj a'11_, .bool bad'12_]])) w1 (hw.frameL [1] rfl hO)
  refine zC rfl (zJ rfl rfl (fun w' hw => (xP o v b a'11_ bad'12_ w' (by first | assumption | omega | (simp <;> omega) | (constructor <;> (first | omega | (simp only [zb]; omega) | (simp <;> omega)))) (by first | omega | (simp <;> omega)) (hw.give [1] rfl (by decide)) (hw.rdTo hb [1] rfl)).mono ?_))
  rintro _ w1 ⟨n13_, a'14_, bad'15_, rfl, hf1_9, hf1_9_1, hO⟩
  have hq5 := hf1_9.le
  refine (?_ : CL _ _ _ _ _ _ (Own w S [Res.row b2 43 [Vn 0, Vn 0, Vi 0, Vn 0, Vi 0, Vi 0], Res.row o 185 [v, Vj a'14_, .bool bad'15_]])) w1 (hw.frameL [1] rfl hO)
  refine yw (c := yT n13_) (by kernel_rfl) rfl (xD hf1_9_1) rfl ?_ (by kernel_rfl)
  refine zC rfl (zJ rfl rfl (fun w' hw => (xP o v b a'14_ bad'15_ w' (by first | assumption | omega | (simp <;> omega) | (constructor <;> (first | omega | (simp only [zb]; omega) | (simp <;> omega)))) (by first | omega | (simp <;> omega)) (hw.give [1] rfl (by decide)) (hw.rdTo hb [1] rfl)).mono ?_))
  rintro _ w1 ⟨n16_, a'17_, bad'18_, rfl, hf1_12, hf1_12_1, hO⟩
  refine (?_ : CL _ _ _ _ _ _ (Own w S [Res.row b2 43 [Vn 0, Vn 0, Vi 0, Vn 0, Vi 0, Vi 0], Res.row o 185 [v, Vj a'17_, .bool bad'18_]])) w1 (hw.frameL [1] rfl hO)
  refine yw (c := yT n16_) (by kernel_rfl) rfl (xD hf1_12_1) rfl ?_ (by kernel_rfl)
  refine yQ (cs := [Vn n1_, Vn n4_, Vj n7_, Vn n10_, Vi (yT n13_), Vi (yT n16_)]) (z := [Vn 0, Vn 0, Vi 0, Vn 0, Vi 0, Vi 0]) (pl := [(0, 1), (1, 1), (2, 1), (3, 1), (4, 1), (5, 1)]) (by kernel_rfl) (by kernel_rfl) rfl (zh 0 rfl rfl rfl (z8 rfl) rfl (zA ?_))
  exact zM (ji (cs := [Vn n1_, Vn n4_, Vj n7_, Vn n10_, Vi (yT n13_), Vi (yT n16_)]) rfl rfl (by kernel_rfl) (Own.rowCells (i := 0) rfl) (fun w' hw => ⟨n1_, n4_, n7_, n10_, yT n13_, yT n16_, a'17_, bad'18_, rfl, hf1_1.bind (hf1_3.bind (RdS.bind hf1_5.int (hf1_7.bind (hf1_9.bind (hf1_12.bind (RdS.pure _ hf1_12.le)))))), hw.sel [1] rfl (by decide)⟩))
theorem zFe (v : Value) (b : List UInt8) (w : World) (hl : b.length ≤ 1048576) (hb : Rd w [] (Res.sl v b.length (b.map vb))) : Rets Tryz.prog 75 #[.agg #[.func (.func 110) #[] #[], .func (.func 111) #[] #[], .func (.func 112) #[] #[]], v] w fun u_ w' => ∃ (s : Nat) (q : Nat) (op : Int) (le : Nat) (am : Int) (sp : Int) (e : Int), u_ = .tuple #[.agg #[Vn s, Vn q, Vi op, Vn le, Vi am, Vi sp], Vi e] ∧ ValPost (jQ b) (⟨s, q, op, le, am, sp⟩ : RepD) zKf e ∧ Own w [] [] w' := by
  refine zW Tryz.func75 rfl Tryz.ntmps75 (Own.start w) ?_
  refine zB (yc rfl rfl (fun b2 => yF (v := .agg #[Vn 0, Vn 0, Vi 0, Vn 0, Vi 0, Vi 0]) (by kernel_rfl) rfl (fun b4 => zD rfl (zA (zB (zC rfl (zA0 (cs := [v, Vi 0, .bool false]) (z := [.slice none 0 0, Vi 0, .bool false]) (pl := [(0, 1), (1, 1), (2, 1)]) (by kernel_rfl) ⟨(Sl.cell1 (Rd.φ hb)), trivial⟩ (by kernel_rfl) rfl (yc rfl rfl (fun b10 => zD rfl (zA (zB (zP (o := 2) rfl rfl ?_))))))))))))
  refine zS 0 (v := .func (.func 112) #[] #[]) rfl rfl rfl rfl (zC rfl (xI (fst := []) (cap := []) rfl (by kernel_rfl) rfl rfl (fun w' hw => (zEp b10 v b 0 false w' (by first | assumption | omega | (simp <;> omega) | (constructor <;> (first | omega | (simp only [zb]; omega) | (simp <;> omega)))) (by first | omega | (simp <;> omega)) (hw.give [2] rfl (by decide)) (hw.rdTo hb [2] rfl)).mono ?_)))
  rintro _ w1 ⟨s1_, q2_, op3_, le4_, am5_, sp6_, a'7_, bad'8_, rfl, hf2_3, hO⟩
  refine (?_ : CL _ _ _ _ _ _ (Own w [] [Res.row b2 137 [.func (.func 110) #[] #[], .func (.func 111) #[] #[], .func (.func 112) #[] #[]], Res.row b4 43 [Vn 0, Vn 0, Vi 0, Vn 0, Vi 0, Vi 0], Res.row b10 185 [v, Vj a'7_, .bool bad'8_]])) w1 (hw.frameL [2] rfl hO)
  refine zh 1 rfl rfl rfl (z8 rfl) rfl (zA (zL (zB (zC rfl (zm rfl rfl (zP (o := 2) rfl rfl (zS 2 (v := .bool bad'8_) rfl rfl rfl rfl (zC rfl (yY (q := bad'8_ = true) 7 4 [26, 25, 24, 23, 22, 21, 20] (((a'7_ : Nat) : Int) ≠ ((b.length : Nat) : Int)) rfl rfl (yb _) rfl rfl rfl trivial rfl (fun h3_4 => ?_) (fun g3_12 => ?_))))))))))
  ·
   refine zO rfl (bF h3_4) (zC rfl (zO rfl (bF h3_4) (zm rfl rfl (zO rfl (bF h3_4) (zP (o := 1) rfl rfl (zO rfl (bF h3_4) (zS 2 (v := Vj a'7_) rfl rfl rfl rfl (zO rfl (bF h3_4) (zC rfl (zO rfl (bF h3_4) (yC (pR hb) rfl rfl (zO rfl (bF h3_4) ?_))))))))))))
   refine xn rfl rfl rfl ?_
   exact yL rfl (fun _ hw => hw)
  refine zC rfl (yY (q := (bad'8_ = true) ∨ (((a'7_ : Nat) : Int) ≠ ((b.length : Nat) : Int))) 5 13 [33, 32, 31, 30, 29] (¬ (({ session := s1_, seq := q2_, e := ((op3_ : Nat) : Int), lease := le4_, amount := am5_, until_ := sp6_ } : RepD).ok)) rfl rfl rfl rfl rfl rfl trivial rfl (fun h3_13 => ?_) (fun g3_19 => ?_))
  ·
   refine zO rfl (gF h3_13) (zP (o := 0) rfl rfl (zO rfl (gF h3_13) (zS 0 (v := .func (.func 110) #[] #[]) rfl rfl rfl rfl (zO rfl (gF h3_13) (yN (cs := [Vn s1_, Vn q2_, Vj op3_, Vn le4_, Vi am5_, Vi sp6_]) 1 rfl rfl rfl (zO rfl (gF h3_13) (xI (fst := []) (cap := []) rfl (by kernel_rfl) rfl rfl (fun w' hw => (zCl ({ session := s1_, seq := q2_, e := ((op3_ : Nat) : Int), lease := le4_, amount := am5_, until_ := sp6_ } : RepD) w').mono ?_))))))))
   rintro _ w1 ⟨rfl, hO⟩
   refine (?_ : CL _ _ _ _ _ _ (Own w [] [Res.row b2 137 [.func (.func 110) #[] #[], .func (.func 111) #[] #[], .func (.func 112) #[] #[]], Res.row b4 43 [Vn s1_, Vn q2_, Vj op3_, Vn le4_, Vi am5_, Vi sp6_], Res.row b10 185 [v, Vj a'7_, .bool bad'8_]])) w1 (hw.frame0 hO)
   refine zO rfl (gF h3_13) (xo (q := ({ session := s1_, seq := q2_, e := ((op3_ : Nat) : Int), lease := le4_, amount := am5_, until_ := sp6_ } : RepD).ok) rfl rfl ?_)
   exact yL rfl (fun _ hw => hw)
  refine zA (zU rfl (fun c1 => ?_) (fun c1 => ?_))
  ·
   refine zB (yF (v := .agg #[Vn 0, Vn 0, Vi 0, Vn 0, Vi 0, Vi 0]) (by kernel_rfl) rfl (fun b7 => zA (zB (yN (cs := [Vn 0, Vn 0, Vi 0, Vn 0, Vi 0, Vi 0]) 3 rfl rfl rfl (zh 1 rfl rfl rfl (z8 rfl) rfl (zD rfl (zA ?_)))))))
   exact zM (yH (cs := [Vn 0, Vn 0, Vi 0, Vn 0, Vi 0, Vi 0]) (v := Vi 4) rfl rfl rfl (by kernel_rfl) (Own.rowCells (i := 1) rfl) (fun w' hw => ⟨0, 0, 0, 0, 0, 0, 4, rfl, .inr ⟨rfl, zAK hf2_3 (fun h1 h2 h3 => c1.elim (fun h => h.elim (fun h => (by rw [h1] at h; cases h)) (fun h => h (by omega))) (fun h => h h3)), rfl⟩, hw.drop⟩))
  ·
   refine zK (zB (yN (cs := [Vn s1_, Vn q2_, Vj op3_, Vn le4_, Vi am5_, Vi sp6_]) 1 rfl rfl rfl (zh 1 rfl rfl rfl (z8 rfl) rfl (zD rfl (zA ?_)))))
   exact zM (yH (cs := [Vn s1_, Vn q2_, Vj op3_, Vn le4_, Vi am5_, Vi sp6_]) (v := Vi 0) rfl rfl rfl (by kernel_rfl) (Own.rowCells (i := 1) rfl) (fun w' hw => ⟨s1_, q2_, ((op3_ : Nat) : Int), le4_, am5_, sp6_, 0, rfl, .inl ⟨rfl, zAb hf2_3 (by cases h : bad'8_; rfl; exact absurd (.inl (.inl h)) c1) (by have : ¬ (a'7_ : Int) ≠ b.length := fun h => c1 (.inl (.inr h)); omega) (Decidable.not_not.1 fun h => c1 (.inr h))⟩, hw.drop⟩))
theorem zKY (v : Value) (b : List UInt8) (w : World) (hl : b.length ≤ 1048576) (hb : Rd w [] (Res.sl v b.length (b.map vb))) : Rets Tryz.prog 43 #[v] w fun u_ w' => ∃ (s : Nat) (q : Nat) (op : Int) (le : Nat) (am : Int) (sp : Int) (e : Int), u_ = .tuple #[.agg #[Vn s, Vn q, Vi op, Vn le, Vi am, Vi sp], Vi e] ∧ ValPost (jQ b) (⟨s, q, op, le, am, sp⟩ : RepD) zKf e ∧ Own w [] [] w' := by
  refine zW Tryz.func43 rfl Tryz.ntmps43 (Own.start w) ?_
  refine zB (yF (v := .agg #[Vn 0, Vn 0, Vi 0, Vn 0, Vi 0, Vi 0]) (by kernel_rfl) rfl (fun b2 => zD rfl (zA (zB (zJ rfl rfl (fun w' hw => (zDe w').mono ?_))))))
  rintro _ w1 ⟨rfl, hO⟩
  refine (?_ : CL _ _ _ _ _ _ (Own w [] [Res.row b2 43 [Vn 0, Vn 0, Vi 0, Vn 0, Vi 0, Vi 0]])) w1 (hw.frame0 hO)
  refine zC rfl (zJ rfl rfl (fun w' hw => (zFe v b w' (by first | omega | (simp <;> omega)) (hw.rd0 hb)).mono ?_))
  rintro _ w1 ⟨s1_, q2_, op3_, le4_, am5_, sp6_, e7_, rfl, hf1_2, hO⟩
  refine (?_ : CL _ _ _ _ _ _ (Own w [] [Res.row b2 43 [Vn 0, Vn 0, Vi 0, Vn 0, Vi 0, Vi 0]])) w1 (hw.frame0 hO)
  refine zp (vs := [.agg #[Vn s1_, Vn q2_, Vi op3_, Vn le4_, Vi am5_, Vi sp6_], Vi e7_]) rfl rfl rfl (zp (vs := [.agg #[Vn s1_, Vn q2_, Vi op3_, Vn le4_, Vi am5_, Vi sp6_], Vi e7_]) rfl rfl rfl (zh 0 rfl rfl rfl (z8 rfl) rfl (zD rfl (zA ?_))))
  exact zM (yH (cs := [Vn s1_, Vn q2_, Vi op3_, Vn le4_, Vi am5_, Vi sp6_]) (v := Vi e7_) rfl rfl rfl (by kernel_rfl) (Own.rowCells (i := 0) rfl) (fun w' hw => ⟨s1_, q2_, op3_, le4_, am5_, sp6_, e7_, rfl, hf1_2, hw.drop⟩))
theorem zFl {S : List Nat} (o : Nat) (v : Value) (b : List UInt8) (a : Nat) (bad : Bool) (w : World) (hl : zb b.length) (ha : a ≤ b.length) (hin : Own w S [Res.row o 171 [v, Vj a, .bool bad]] w) (hb : Rd w S (Res.sl v b.length (b.map vb))) : Rets Tryz.prog 97 #[.pointer (some ⟨o, 0, none⟩)] w fun u_ w' => ∃ (s : Nat) (q : Nat) (op : Nat) (k : ByteArray) (am : Int) (sp : Int) (le : Nat) (a' : Nat) (bad' : Bool), u_ = .agg #[Vn s, Vn q, Vj op, .string k, Vi am, Vi sp, Vn le] ∧ RdS zLg b a bad (⟨s, q, (op : Int), k, am, sp, le⟩ : CmdD) a' bad' ∧ k.size ≤ b.length ∧ Own w S [Res.row o 171 [v, Vj a', .bool bad']] w' := by
  refine zW Tryz.func97 rfl Tryz.ntmps97 hin ?_
  refine zB (yF (v := .agg #[Vn 0, Vn 0, Vi 0, .string (⟨#[]⟩ : ByteArray), Vi 0, Vi 0, Vn 0]) (by kernel_rfl) rfl (fun b2 => zA (zB (yQ (cs := [Vn 0, Vn 0, Vi 0, .string (⟨#[]⟩ : ByteArray), Vi 0, Vi 0, Vn 0]) (z := [Vn 0, Vn 0, Vi 0, .string (⟨#[]⟩ : ByteArray), Vi 0, Vi 0, Vn 0]) (pl := [(0, 1), (1, 1), (2, 1), (3, 1), (4, 1), (5, 1), (6, 1)]) (by kernel_rfl) (by kernel_rfl) rfl (yF (v := .agg #[Vn 0, Vn 0, Vi 0, .string (⟨#[]⟩ : ByteArray), Vi 0, Vi 0, Vn 0]) (by kernel_rfl) rfl (fun b3 => zh 2 rfl rfl rfl (z8 rfl) rfl (zA (zB (zC rfl (zJ rfl rfl (fun w' hw => (ja o v b a bad w' (by first | assumption | omega | (simp <;> omega) | (constructor <;> (first | omega | (simp only [zb]; omega) | (simp <;> omega)))) (by first | omega | (simp <;> omega)) (hw.give [0] rfl (by decide)) (hw.rdTo hb [0] rfl)).mono ?_)))))))))))
  rintro _ w1 ⟨n1_, a'2_, bad'3_, rfl, hf2_1, hf2_1_1, hO⟩
  have hq1 := hf2_1.le
  refine (?_ : CL _ _ _ _ _ _ (Own w S [Res.row b2 47 [Vn 0, Vn 0, Vi 0, .string (⟨#[]⟩ : ByteArray), Vi 0, Vi 0, Vn 0], Res.row b3 47 [Vn 0, Vn 0, Vi 0, .string (⟨#[]⟩ : ByteArray), Vi 0, Vi 0, Vn 0], Res.row o 171 [v, Vj a'2_, .bool bad'3_]])) w1 (hw.frameL [0] rfl hO)
  refine zP (o := 0) rfl rfl (yi 1 rfl rfl rfl rfl rfl (zA (zB (zC rfl (zJ rfl rfl (fun w' hw => (ja o v b a'2_ bad'3_ w' (by first | assumption | omega | (simp <;> omega) | (constructor <;> (first | omega | (simp only [zb]; omega) | (simp <;> omega)))) (by first | omega | (simp <;> omega)) (hw.give [2] rfl (by decide)) (hw.rdTo hb [2] rfl)).mono ?_))))))
  rintro _ w1 ⟨n4_, a'5_, bad'6_, rfl, hf3_1, hf3_1_1, hO⟩
  have hq2 := hf3_1.le
  refine (?_ : CL _ _ _ _ _ _ (Own w S [Res.row b2 47 [Vn 0, Vn 0, Vi 0, .string (⟨#[]⟩ : ByteArray), Vi 0, Vi 0, Vn 0], Res.row b3 47 [Vn n1_, Vn 0, Vi 0, .string (⟨#[]⟩ : ByteArray), Vi 0, Vi 0, Vn 0], Res.row o 171 [v, Vj a'5_, .bool bad'6_]])) w1 (hw.frameL [2] rfl hO)
  refine zP (o := 1) rfl rfl (yi 1 rfl rfl rfl rfl rfl (zA (zB (zC rfl (zJ rfl rfl (fun w' hw => (zCr o v b a'5_ bad'6_ 5 w' (by first | assumption | omega | (simp <;> omega) | (constructor <;> (first | omega | (simp only [zb]; omega) | (simp <;> omega)))) (by first | omega | (simp <;> omega)) (by first | omega | (simp <;> omega)) (hw.give [2] rfl (by decide)) (hw.rdTo hb [2] rfl)).mono ?_))))))
  rintro _ w1 ⟨n7_, a'8_, bad'9_, rfl, hf4_1, hf4_1_1, hO⟩
  have hq3 := hf4_1.le
  refine (?_ : CL _ _ _ _ _ _ (Own w S [Res.row b2 47 [Vn 0, Vn 0, Vi 0, .string (⟨#[]⟩ : ByteArray), Vi 0, Vi 0, Vn 0], Res.row b3 47 [Vn n1_, Vn n4_, Vi 0, .string (⟨#[]⟩ : ByteArray), Vi 0, Vi 0, Vn 0], Res.row o 171 [v, Vj a'8_, .bool bad'9_]])) w1 (hw.frameL [2] rfl hO)
  refine zP (o := 2) rfl rfl (yi 1 rfl rfl rfl rfl rfl (zA (zB (zC rfl (zJ rfl rfl (fun w' hw => (zHC o v b a'8_ bad'9_ w' (by first | assumption | omega | (simp <;> omega) | (constructor <;> (first | omega | (simp only [zb]; omega) | (simp <;> omega)))) (by first | omega | (simp <;> omega)) (hw.give [2] rfl (by decide)) (hw.rdTo hb [2] rfl)).mono ?_))))))
  rintro r10_ w1 ⟨_, d11_, a'12_, bad'13_, rfl, hf5_1, hf5_1_1, hO⟩
  have hq4 := hf5_1.le
  refine (?_ : CL _ _ _ _ _ _ (Own w S [Res.row b2 47 [Vn 0, Vn 0, Vi 0, .string (⟨#[]⟩ : ByteArray), Vi 0, Vi 0, Vn 0], Res.row b3 47 [Vn n1_, Vn n4_, Vj n7_, .string (⟨#[]⟩ : ByteArray), Vi 0, Vi 0, Vn 0], Res.row o 171 [v, Vj a'12_, .bool bad'13_], Res.vec 5 1 r10_ d11_.length (d11_.map vb)])) w1 (hw.frameL [2] rfl hO)
  refine jZ (bs := d11_) (by kernel_rfl) (by kernel_rfl) rfl (fun w' hw' => Vec.sl (Own.holds hw' 3 _ rfl)) rfl (zP (o := 3) rfl rfl (yi 1 rfl rfl rfl rfl rfl (zA (zB (zC rfl (zJ rfl rfl (fun w' hw => (ja o v b a'12_ bad'13_ w' (by first | assumption | omega | (simp <;> omega) | (constructor <;> (first | omega | (simp only [zb]; omega) | (simp <;> omega)))) (by first | omega | (simp <;> omega)) (hw.give [2] rfl (by decide)) (hw.rdTo hb [2] rfl)).mono ?_)))))))
  rintro _ w1 ⟨n14_, a'15_, bad'16_, rfl, hf6_1, hf6_1_1, hO⟩
  have hq5 := hf6_1.le
  refine (?_ : CL _ _ _ _ _ _ (Own w S [Res.row b2 47 [Vn 0, Vn 0, Vi 0, .string (⟨#[]⟩ : ByteArray), Vi 0, Vi 0, Vn 0], Res.row b3 47 [Vn n1_, Vn n4_, Vj n7_, .string (⟨d11_.toArray⟩ : ByteArray), Vi 0, Vi 0, Vn 0], Res.vec 5 1 r10_ d11_.length (d11_.map vb), Res.row o 171 [v, Vj a'15_, .bool bad'16_]])) w1 (hw.frameL [2] rfl hO)
  refine yw (c := yT n14_) (by kernel_rfl) rfl (xD hf6_1_1) rfl ?_ (by kernel_rfl)
  refine zP (o := 4) rfl rfl (yi 1 rfl rfl rfl rfl rfl (zA (zB (zC rfl (zJ rfl rfl (fun w' hw => (ja o v b a'15_ bad'16_ w' (by first | assumption | omega | (simp <;> omega) | (constructor <;> (first | omega | (simp only [zb]; omega) | (simp <;> omega)))) (by first | omega | (simp <;> omega)) (hw.give [3] rfl (by decide)) (hw.rdTo hb [3] rfl)).mono ?_))))))
  rintro _ w1 ⟨n17_, a'18_, bad'19_, rfl, hf7_1, hf7_1_1, hO⟩
  have hq6 := hf7_1.le
  refine (?_ : CL _ _ _ _ _ _ (Own w S [Res.row b2 47 [Vn 0, Vn 0, Vi 0, .string (⟨#[]⟩ : ByteArray), Vi 0, Vi 0, Vn 0], Res.row b3 47 [Vn n1_, Vn n4_, Vj n7_, .string (⟨d11_.toArray⟩ : ByteArray), Vi (yT n14_), Vi 0, Vn 0], Res.vec 5 1 r10_ d11_.length (d11_.map vb), Res.row o 171 [v, Vj a'18_, .bool bad'19_]])) w1 (hw.frameL [3] rfl hO)
  refine yw (c := yT n17_) (by kernel_rfl) rfl (xD hf7_1_1) rfl ?_ (by kernel_rfl)
  refine zP (o := 5) rfl rfl (yi 1 rfl rfl rfl rfl rfl (zA (zB (zC rfl (zJ rfl rfl (fun w' hw => (ja o v b a'18_ bad'19_ w' (by first | assumption | omega | (simp <;> omega) | (constructor <;> (first | omega | (simp only [zb]; omega) | (simp <;> omega)))) (by first | omega | (simp <;> omega)) (hw.give [3] rfl (by decide)) (hw.rdTo hb [3] rfl)).mono ?_))))))
  rintro _ w1 ⟨n20_, a'21_, bad'22_, rfl, hf8_1, hf8_1_1, hO⟩
  refine (?_ : CL _ _ _ _ _ _ (Own w S [Res.row b2 47 [Vn 0, Vn 0, Vi 0, .string (⟨#[]⟩ : ByteArray), Vi 0, Vi 0, Vn 0], Res.row b3 47 [Vn n1_, Vn n4_, Vj n7_, .string (⟨d11_.toArray⟩ : ByteArray), Vi (yT n14_), Vi (yT n17_), Vn 0], Res.vec 5 1 r10_ d11_.length (d11_.map vb), Res.row o 171 [v, Vj a'21_, .bool bad'22_]])) w1 (hw.frameL [3] rfl hO)
  refine zP (o := 6) rfl rfl (yi 1 rfl rfl rfl rfl rfl (zA (zB (yN 1 rfl rfl rfl (zh 0 rfl rfl rfl (z8 rfl) rfl (zA ?_))))))
  exact zM (ji (cs := [Vn n1_, Vn n4_, Vj n7_, .string (⟨d11_.toArray⟩ : ByteArray), Vi (yT n14_), Vi (yT n17_), Vn n20_]) rfl rfl (by kernel_rfl) (Own.rowCells (i := 0) rfl) (fun w' hw => ⟨n1_, n4_, n7_, (⟨d11_.toArray⟩ : ByteArray), yT n14_, yT n17_, n20_, a'21_, bad'22_, rfl, hf2_1.bind (hf3_1.bind (RdS.bind hf4_1.int (hf5_1.bind (hf6_1.bind (hf7_1.bind (hf8_1.bind (RdS.pure _ hf8_1.le))))))), hf5_1_1, hw.sel [3] rfl (by decide)⟩))
theorem zEg (x : CmdD) (w : World) (hx : x.key.size ≤ 1048576) : Rets Tryz.prog 29 #[.agg (CmdD.cells x).toArray] w fun u_ w' => u_ = .bool (decide x.ok) ∧ Own w [] [] w' := by
  refine zW Tryz.func29 rfl Tryz.ntmps29 (Own.start w) ?_
  refine zB (yc rfl rfl (fun b1 => zD rfl (zA (zB (zP (o := 2) rfl rfl (zS 0 (v := Vi x.op) rfl rfl rfl rfl (xC rfl rfl rfl (zC rfl (yP (q := 1 ≤ x.op) 3 3 [9, 8, 7] (x.op ≤ 5) rfl rfl rfl rfl rfl rfl trivial rfl (fun h1_3 => ?_) (fun g1_7 => ?_))))))))))
  ·
   refine zO rfl (gT h1_3) (zP (o := 2) rfl rfl (zO rfl (gT h1_3) (zS 0 (v := Vi x.op) rfl rfl rfl rfl (zO rfl (gT h1_3) (ka rfl rfl rfl ?_)))))
   exact yL rfl (fun _ hw => hw)
  refine zC rfl (yP (q := (1 ≤ x.op) ∧ (x.op ≤ 5)) 4 8 [15, 14, 13, 12] (((x.key.size : Nat) : Int) ≤ 64) rfl rfl rfl rfl rfl rfl trivial rfl (fun h1_8 => ?_) (fun g1_13 => ?_))
  ·
   refine zO rfl (gT h1_8) (zP (o := 3) rfl rfl (zO rfl (gT h1_8) (zS 0 (v := .string x.key) rfl rfl rfl rfl (zO rfl (gT h1_8) (zCc (by kernel_rfl) rfl rfl (zO rfl (gT h1_8) (ka rfl rfl rfl ?_)))))))
   exact yL rfl (fun _ hw => hw)
  refine zD rfl (zA ?_)
  exact zM (z6 (v := .bool (decide (((1 ≤ x.op) ∧ (x.op ≤ 5)) ∧ (((x.key.size : Nat) : Int) ≤ 64)))) rfl rfl (fun w' hw => ⟨(by congr 1; exact decide_eq_decide.2 (by unfold CmdD.ok; omega)), hw.drop⟩))
theorem zIK (v : Value) (b : List UInt8) (w : World) (hl : b.length ≤ 1048576) (hb : Rd w [] (Res.sl v b.length (b.map vb))) : Rets Tryz.prog 59 #[v] w fun u_ w' => ∃ (s : Nat) (q : Nat) (op : Int) (k : ByteArray) (am : Int) (sp : Int) (le : Nat) (f : Bool), u_ = .tuple #[.agg #[Vn s, Vn q, Vi op, .string k, Vi am, Vi sp, Vn le], .bool f] ∧ RefPost (jp b) (⟨s, q, op, k, am, sp, le⟩ : CmdD) f ∧ Own w [] [] w' := by
  refine zW Tryz.func59 rfl Tryz.ntmps59 (Own.start w) ?_
  refine zB (yF (v := .agg #[Vn 0, Vn 0, Vi 0, .string (⟨#[]⟩ : ByteArray), Vi 0, Vi 0, Vn 0]) (by kernel_rfl) rfl (fun b2 => zD rfl (zA (zB (zC rfl (zA0 (cs := [v, Vi 0, .bool false]) (z := [.slice none 0 0, Vi 0, .bool false]) (pl := [(0, 1), (1, 1), (2, 1)]) (by kernel_rfl) ⟨(Sl.cell1 (Rd.φ hb)), trivial⟩ (by kernel_rfl) rfl (yc rfl rfl (fun b8 => zD rfl (zA (zB (zC rfl (zJ rfl rfl (fun w' hw => ?_)))))))))))))
  refine (zFl b8 v b 0 false w' (by first | assumption | omega | (simp <;> omega) | (constructor <;> (first | omega | (simp only [zb]; omega) | (simp <;> omega)))) (by first | omega | (simp <;> omega)) (hw.give [1] rfl (by decide)) (hw.rdTo hb [1] rfl)).mono ?_
  rintro _ w1 ⟨s1_, q2_, op3_, k4_, am5_, sp6_, le7_, a'8_, bad'9_, rfl, hf2_1, hf2_1_1, hO⟩
  refine (?_ : CL _ _ _ _ _ _ (Own w [] [Res.row b2 47 [Vn 0, Vn 0, Vi 0, .string (⟨#[]⟩ : ByteArray), Vi 0, Vi 0, Vn 0], Res.row b8 171 [v, Vj a'8_, .bool bad'9_]])) w1 (hw.frameL [1] rfl hO)
  refine yF (v := .agg #[Vn 0, Vn 0, Vi 0, .string (⟨#[]⟩ : ByteArray), Vi 0, Vi 0, Vn 0]) (by kernel_rfl) rfl (fun b5 => zh 2 rfl rfl rfl (z8 rfl) rfl (zA (zL (zg [2] rfl (by decide) (by kernel_rfl) (fun w' hw hS => zF 0 rfl (kI 0 rfl rfl) hS (zF 1 rfl (zQ) hS (zY 2 rfl hw (zJ rfl rfl (fun w' hw => (zGX b8 v b a'8_ bad'9_ w' (by first | assumption | omega | (simp <;> omega) | (constructor <;> (first | omega | (simp only [zb]; omega) | (simp <;> omega)))) (hw.give [1] rfl (by decide)) (hw.rdTo hb [1] rfl)).mono ?_)))))))))
  rintro _ w1 ⟨rfl, hO⟩
  refine (?_ : CL _ _ _ _ _ _ (Own w [] [Res.row b2 47 [Vn 0, Vn 0, Vi 0, .string (⟨#[]⟩ : ByteArray), Vi 0, Vi 0, Vn 0], Res.row b5 47 [Vn s1_, Vn q2_, Vj op3_, .string k4_, Vi am5_, Vi sp6_, Vn le7_], Res.row b8 171 [v, Vj a'8_, .bool bad'9_]])) w1 (hw.frameL [1] rfl hO)
  refine zG [1] rfl (by decide) (fun w' hw hS => zF 3 rfl (zQ) hS ?_)
  by_cases g3_3 : bad'9_ = false ∧ a'8_ = b.length
  ·
   refine zl 4 rfl rfl (gT g3_3) (kI 0 rfl rfl) hS (zY 5 rfl hw (zO rfl (gT g3_3) (zJ rfl rfl (fun w' hw => (zEg ({ session := s1_, seq := q2_, op := ((op3_ : Nat) : Int), key := k4_, amount := am5_, span := sp6_, lease := le7_ } : CmdD) w' (by have := hf2_1_1; dsimp only; omega)).mono ?_))))
   rintro _ w1 ⟨rfl, hO⟩
   refine (?_ : CL _ _ _ _ _ _ (Own w [] [Res.row b2 47 [Vn 0, Vn 0, Vi 0, .string (⟨#[]⟩ : ByteArray), Vi 0, Vi 0, Vn 0], Res.row b5 47 [Vn s1_, Vn q2_, Vj op3_, .string k4_, Vi am5_, Vi sp6_, Vn le7_], Res.row b8 171 [v, Vj a'8_, .bool bad'9_]])) w1 (hw.frame0 hO)
   refine zG [1] rfl (by decide) (fun w' hw hS => zF 6 rfl (y5 (gT g3_3)) hS (zY 7 rfl hw (zh 0 rfl rfl rfl (z8 rfl) rfl (zG [1] rfl (by decide) (fun w' hw hS => zF 8 rfl (yx) hS (zR ?_))))))
   refine (?_ : C _ _ _ _ _ _ _ (Own w [] [Res.row b2 47 [Vn s1_, Vn q2_, Vj op3_, .string k4_, Vi am5_, Vi sp6_, Vn le7_], Res.row b5 47 [Vn s1_, Vn q2_, Vj op3_, .string k4_, Vi am5_, Vi sp6_, Vn le7_], Res.row b8 171 [v, Vj a'8_, .bool bad'9_]])) _ hw
   exact zM (yH (cs := [Vn s1_, Vn q2_, Vj op3_, .string k4_, Vi am5_, Vi sp6_, Vn le7_]) (v := .bool (decide (({ session := s1_, seq := q2_, op := ((op3_ : Nat) : Int), key := k4_, amount := am5_, span := sp6_, lease := le7_ } : CmdD).ok))) rfl rfl rfl (by kernel_rfl) (Own.rowCells (i := 0) rfl) (fun w' hw => ⟨s1_, q2_, ((op3_ : Nat) : Int), k4_, am5_, sp6_, le7_, (decide (({ session := s1_, seq := q2_, op := ((op3_ : Nat) : Int), key := k4_, amount := am5_, span := sp6_, lease := le7_ } : CmdD).ok)), rfl, RefPost.on hf2_1 g3_3 decide_eq_true_iff, hw.drop⟩))
  ·
   refine zc 4 rfl rfl (gF g3_3) rfl hS (zc 5 rfl rfl (gF g3_3) rfl hS (zF 6 rfl (yz (gF g3_3)) hS (zY 7 rfl hw (zh 0 rfl rfl rfl (z8 rfl) rfl (zG [1] rfl (by decide) (fun w' hw hS => zF 8 rfl (yx) hS (zR ?_)))))))
   refine (?_ : C _ _ _ _ _ _ _ (Own w [] [Res.row b2 47 [Vn s1_, Vn q2_, Vj op3_, .string k4_, Vi am5_, Vi sp6_, Vn le7_], Res.row b5 47 [Vn s1_, Vn q2_, Vj op3_, .string k4_, Vi am5_, Vi sp6_, Vn le7_], Res.row b8 171 [v, Vj a'8_, .bool bad'9_]])) _ hw
   exact zM (yH (cs := [Vn s1_, Vn q2_, Vj op3_, .string k4_, Vi am5_, Vi sp6_, Vn le7_]) (v := .bool false) rfl rfl rfl (by kernel_rfl) (Own.rowCells (i := 0) rfl) (fun w' hw => ⟨s1_, q2_, ((op3_ : Nat) : Int), k4_, am5_, sp6_, le7_, false, rfl, RefPost.off hf2_1 g3_3, hw.drop⟩))
end Go.Proofs.YthincafbmpialaaGreat
