import Derived.Test.YtcdiehplbmkmeaaIn
import Derived.Test.YtcdiehplbmkmeaaConfDec
set_option linter.unusedSectionVars false
set_option linter.unusedSimpArgs false
set_option linter.unusedVariables false
set_option maxRecDepth 10000
namespace Go.Proofs.Ytcdiehplbmkmeaa
open Go Go.Sc Go.Proofs
def pv (p : Value × List UInt8) : List Value := [p.1]
abbrev BsRd (p : Value × List UInt8) (w : World) (S : List Nat) : Prop := Rd w S (Res.sl p.1 p.2.length (p.2.map vb))
theorem BsRd.at0 {p : Value × List UInt8} {w0 w : World} {S : List Nat} {L : List Res} (h : BsRd p w0 S) (hw : Own w0 S L w) : BsRd p w [] := hw.rd0 h
theorem BsRd.at {p : Value × List UInt8} {w0 w : World} {S : List Nat} {L Lin : List Res} (h : BsRd p w0 S) (hw : Own w0 S L w) (m : List Nat) (hm : m.mapM (fun i => L[i]?) = some Lin) : BsRd p w (xk Lin) := hw.rdTo h m hm
def yi (ps : List (Value × List UInt8)) : List UInt8 := ps.flatMap fun p => dat p.2
theorem zDK (v : Value) (bs : List UInt8) (lv : Value) (ps : List (Value × List UInt8)) (w : World) (hb : bs.length + (yi ps).length ≤ 100000000000) (hn : zu ps.length) (hv : Rd w [] (Res.sl v bs.length (bs.map vb))) (hl : Rd w [] (Res.sl lv ps.length (ps.flatMap pv))) (all_hl : ∀ p ∈ ps, BsRd p w []) : Rets Try.prog 68 #[v, lv] w fun u_ w' => ∃ (r : Value), u_ = r ∧ Own w [] [Res.vec 5 1 r (bs ++ yi ps).length ((bs ++ yi ps).map vb)] w' := by
  have hbl : bs.length ≤ 100000000000 := by omega
  refine zg Try.func68 rfl Try.ntmps68 (Own.start w) ?_
  refine zB (zH rfl (zA (zB (zC rfl (zQ rfl rfl (fun w' hw => (zGN v bs w' (by first | assumption | omega | (simp <;> omega) | (constructor <;> (first | omega | (simp only [zu]; omega) | (simp <;> omega)))) (hw.rd0 hv)).mono ?_))))))
  rintro r1_ w1 ⟨_, rfl, hO⟩
  refine (?_ : CL _ _ _ _ _ _ (Own w [] [Res.vec 5 1 r1_ bs.length (bs.map vb)])) w1 (hw.frame0 hO)
  refine zH rfl (zA (zO (zB (zC rfl (yl (pR hl) rfl rfl (zC rfl (zA (zT ?_))))))))
  refine y4 (fun (k : Nat) (o : Value) => [(5, o), (10, lv), (11, Vj ps.length), (12, Vj k)]) (fun (k : Nat) (o : Value) => k ≤ ps.length) (fun (k : Nat) (o : Value) => [Res.vec 5 1 o (bs ++ yi (ps.take k)).length ((bs ++ yi (ps.take k)).map vb)]) (fun (k : Nat) (o : Value) => ps.length - k) (fun w' hw => ⟨0, r1_, ⟨rfl, rfl, rfl, rfl, trivial⟩, Nat.zero_le _, by simpa [yi] using hw⟩) (fun k o g hΦ => ?_)
  have hle := zAa (fun p : Value × List UInt8 => dat p.2) ps (k + 1)
  refine zB (yT rfl rfl rfl (zA (zO (zU rfl (fun c1 => ?_) (fun c1 => ?_)))))
  ·
   rw [xd (by omega), List.flatMap_append] at hle
   simp only [List.length_append, List.flatMap_cons, List.flatMap_nil, List.append_nil, dat] at hle
   have hcl : (yi (ps.take k)).length + ((num (zG ps k).2.length).length + (zG ps k).2.length) ≤ (yi ps).length := hle
   refine zM (zO (zT (zB (zD (pR hl) 1 k rfl rfl rfl (by omega) rfl (zL (pR hl) 1 k 0 (fun _ => rfl) rfl rfl (by omega) rfl rfl (zH rfl (zA (zj (zC rfl (zC rfl (yl (pR (all_hl _ (yH (by omega)))) rfl rfl (xZ (by kernel_rfl) rfl (zC1 (by omega)) rfl ?_ (by kernel_rfl)))))))))))))
   refine zQ rfl rfl (fun w' hw => (zCX o (bs ++ yi (ps.take k)) (((zG ps k).2).length) w' (by first | omega | (simp <;> omega)) (by first | omega | (simp <;> omega) | (constructor <;> (first | omega | (simp <;> omega)))) (hw.rdVec0 0 rfl)).mono ?_)
   rintro r2_ w1 ⟨_, rfl, hO⟩
   refine (?_ : CL _ _ _ _ _ _ (Own w [] [Res.vec 5 1 o (bs ++ yi (ps.take k)).length ((bs ++ yi (ps.take k)).map vb), Res.vec 5 1 r2_ ((bs ++ yi (ps.take k)) ++ num (((zG ps k).2).length)).length (((bs ++ yi (ps.take k)) ++ num (((zG ps k).2).length)).map vb)])) w1 (hw.frame0 hO)
   refine zC rfl (zFo (l := ((bs ++ yi (ps.take k)) ++ num (((zG ps k).2).length))) (l' := (zG ps k).2) 1 (by kernel_rfl) rfl rfl rfl (fun w' hw' => Own.rd (all_hl _ (yH (by omega))) hw') (by first | omega | (simp; omega)) rfl (fun v22 => zH rfl (zA (zj (zw rfl rfl (zr (by omega)) rfl (zC rfl ?_))))))
   exact zf (fun w' hw => ⟨k + 1, v22, ⟨rfl, rfl, rfl, rfl, trivial⟩, (by omega), by rw [xd (by omega)]; have h := hw.one 1 rfl; simpa [yi, dat] using h, (by omega)⟩)
  ·
   refine yI rfl (zB (zC rfl (zH rfl (zA ?_))))
   exact zR (z6 (v := o) rfl rfl (fun w' hw => ⟨o, rfl, by rw [List.take_of_length_le (by omega)] at hw; exact hw⟩))
theorem zIa {S : List Nat} (o : Nat) (sl : Value) (bs : List UInt8) (lv : Value) (ps : List (Value × List UInt8)) (w : World) (hb : bs.length + (yi ps).length ≤ 100000000000) (hn : zu ps.length) (hin : Own w S [Res.bv o xK sl bs] w) (hl : Rd w S (Res.sl lv ps.length (ps.flatMap pv))) (all_hl : ∀ p ∈ ps, BsRd p w S) : Rets Try.prog 41 #[.pointer (some ⟨o, 0, none⟩), lv] w fun u_ w' => ∃ (sl' : Value), u_ = .tuple #[] ∧ Own w S [Res.bv o xK sl' (bs ++ yi ps)] w' := by
  refine zg Try.func41 rfl Try.ntmps41 hin ?_
  refine zj (zC rfl (zC rfl (yA rfl rfl (zc (o := 0) rfl rfl ?_))))
  refine zBg [Res.row o xK [sl], Res.vec 5 1 sl bs.length (bs.map vb)] (fun w' hw => hw.splitBv (i := 0) (o := o) (T := xK) (v := sl) (bs := bs) rfl) ?_
  refine ze 0 (v := sl) rfl rfl rfl rfl (zC rfl (zQ rfl rfl (fun w' hw => (zDK sl bs lv ps w' (by first | omega | (simp <;> omega)) (by first | assumption | omega | (simp <;> omega) | (constructor <;> (first | omega | (simp only [zu]; omega) | (simp <;> omega)))) (hw.rdVec0 1 rfl) (hw.rd0 hl) (fun p hp => BsRd.at0 (all_hl p hp) hw)).mono ?_)))
  rintro r1_ w1 ⟨_, rfl, hO⟩
  refine (?_ : CL _ _ _ _ _ _ (Own w S [Res.row o xK [sl], Res.vec 5 1 sl bs.length (bs.map vb), Res.vec 5 1 r1_ (bs ++ yi ps).length ((bs ++ yi ps).map vb)])) w1 (hw.frame0 hO)
  refine yA rfl rfl (zc (o := 0) rfl rfl ?_)
  refine zAh (fun w' hw => Own.cell1Vec (i := 2) rfl hw) (fun hc1_ => ?_)
  refine zA6 (cs := [sl]) 0 rfl rfl rfl hc1_ rfl ?_
  exact zf (ja rfl (fun w' hw => ⟨r1_, rfl, (hw.joinBv (i := 0) (j := 2) (o := o) (T := xK) (v := r1_) (bs := bs ++ yi ps) (by decide) rfl rfl).one 0 rfl⟩))
structure EntA where
  index : Nat
  term : Nat
  kind : Int
  delta : Int
  data : List UInt8
  deriving DecidableEq, Inhabited
structure EntD extends EntA where
  dv : Value
  deriving Inhabited
structure EntA.wf (x : EntA) : Prop where
  index : x.index < 18446744073709551616
  term : x.term < 18446744073709551616
  data : x.data.length ≤ 1000000000
def EntD.cells (x : EntD) : List Value := [.int .u64 x.index, .int .u64 x.term, .int .i64 x.kind, .int .i64 x.delta, x.dv]
structure EntD.rd (x : EntD) (w : World) (S : List Nat) : Prop where
  dv : Rd w S (Res.sl x.dv x.data.length (x.data.map vb))
theorem EntD.rd.at0 {x : EntD} {w0 w : World} {S : List Nat} {L : List Res} (h : x.rd w0 S) (hw : Own w0 S L w) : x.rd w [] := ⟨hw.rd0 h.dv⟩
theorem EntD.rd.at {x : EntD} {w0 w : World} {S : List Nat} {L Lin : List Res} (h : x.rd w0 S) (hw : Own w0 S L w) (m : List Nat) (hm : m.mapM (fun i => L[i]?) = some Lin) : x.rd w (xk Lin) := ⟨hw.rdTo h.dv m hm⟩
def EntD.dres (x : EntD) : Res := Res.vec 5 1 x.dv x.data.length (x.data.map vb)
theorem EntD.dres_rd {x : EntD} {w : World} {S : List Nat} (h : Rd w S x.dres) : x.rd w S := ⟨h.sub Vec.sl zAr⟩
theorem EntD.rd.star {es : List EntD} {w0 w : World} {S : List Nat} {L Lin : List Res} (j : Nat) (hL : L[j]? = some (Res.star (es.map EntD.dres))) (m : List Nat) (hm : m.mapM (fun i => L[i]?) = some Lin) (hj : m.any (Nat.beq j) = false) (h : Own w0 S L w) : ∀ p ∈ es, p.rd w (xk Lin) := fun p hp => EntD.dres_rd (h.star j hL m hm hj _ (List.mem_map_of_mem hp))
def EntA.ok (x : EntA) : Prop := ((1 ≤ x.index ∧ 1 ≤ x.term) ∧ (x.index ≤ 4611686018427387904 ∧ x.term ≤ 4611686018427387904) ∧ (0 ≤ x.delta ∧ x.delta ≤ 1099511627776) ∧ x.data.length ≤ 4096) ∧
  if x.kind = 1 then x.data.length = 0 else if x.kind = 3 then (zHS x.data).isSome = true else x.kind = 2
instance (x : EntA) : Decidable x.ok := by unfold EntA.ok; infer_instance
def EntA.enc (x : EntA) : List UInt8 := yS [x.index, x.term, u64 x.kind, u64 x.delta] ++ dat x.data
end Go.Proofs.Ytcdiehplbmkmeaa
