import Derived.Test.YtcdiehplbmkmeaaIn
import Derived.Test.YtcdiehplbmkmeaaConfDec
set_option linter.unusedSectionVars false
set_option linter.unusedSimpArgs false
set_option linter.unusedVariables false
set_option maxRecDepth 10000
namespace Go.Proofs.Ytcdiehplbmkmeaa
open Go Go.Sc Go.Proofs
def pv (p : Value × List UInt8) : List Value := [p.1]
abbrev BsRd (p : Value × List UInt8) (w : World) (S : List Nat) : Prop := Rd w S (Res.sl p.1 p.2.length (p.2.map vb))
theorem BsRd.at0 {p : Value × List UInt8} {w0 w : World} {S : List Nat} {L : List Res} (h : BsRd p w0 S) (hw : Own w0 S L w) : BsRd p w [] := hw.rd0 h
theorem BsRd.at {p : Value × List UInt8} {w0 w : World} {S : List Nat} {L Lin : List Res} (h : BsRd p w0 S) (hw : Own w0 S L w) (m : List Nat) (hm : m.mapM (fun i => L[i]?) = some Lin) : BsRd p w (xr Lin) := hw.rdTo h m hm
def yo (ps : List (Value × List UInt8)) : List UInt8 := ps.flatMap fun p => dat p.2
theorem zDi (v : Value) (bs : List UInt8) (lv : Value) (ps : List (Value × List UInt8)) (w : World) (hb : bs.length + (yo ps).length ≤ 100000000000) (hn : zx ps.length) (hv : Rd w [] (Res.sl v bs.length (bs.map vb))) (hl : Rd w [] (Res.sl lv ps.length (ps.flatMap pv))) (all_hl : ∀ p ∈ ps, BsRd p w []) : Rets Try.prog 68 #[v, lv] w fun u_ w' => ∃ (r : Value), u_ = r ∧ Own w [] [Res.vec 5 1 r (bs ++ yo ps).length ((bs ++ yo ps).map vb)] w' := by
  have hbl : bs.length ≤ 100000000000 := by omega
  refine zh Try.func68 rfl Try.ntmps68 (Own.start w) ?_
  refine zB (zH rfl (zA (zB (zC rfl (zQ rfl rfl (fun w' hw => (zFu v bs w' (by first | assumption | omega | (simp <;> omega) | (constructor <;> (first | omega | (simp only [zx]; omega) | (simp <;> omega)))) (hw.rd0 hv)).mono ?_))))))
  rintro r1_ w1 ⟨_, rfl, hO⟩
  refine (?_ : CL _ _ _ _ _ _ (Own w [] [Res.vec 5 1 r1_ bs.length (bs.map vb)])) w1 (hw.frame0 hO)
  refine zH rfl (zA (zM (zB (zC rfl (yL (pR hl) rfl rfl (zC rfl (zA (zS ?_))))))))
  refine y4 (fun (k : Nat) (o : Value) => [(5, o), (10, lv), (11, Vj ps.length), (12, Vj k)]) (fun (k : Nat) (o : Value) => k ≤ ps.length) (fun (k : Nat) (o : Value) => [Res.vec 5 1 o (bs ++ yo (ps.take k)).length ((bs ++ yo (ps.take k)).map vb)]) (fun (k : Nat) (o : Value) => ps.length - k) (fun w' hw => ⟨0, r1_, ⟨rfl, rfl, rfl, rfl, trivial⟩, Nat.zero_le _, by simpa [yo] using hw⟩) (fun k o g hΦ => ?_)
  have hle := zAp (fun p : Value × List UInt8 => dat p.2) ps (k + 1)
  refine zB (yO rfl rfl rfl (zA (zM (zU rfl (fun c1 => ?_) (fun c1 => ?_)))))
  ·
   rw [xA (by omega), List.flatMap_append] at hle
   simp only [List.length_append, List.flatMap_cons, List.flatMap_nil, List.append_nil, dat] at hle
   have hcl : (yo (ps.take k)).length + ((num (zG ps k).2.length).length + (zG ps k).2.length) ≤ (yo ps).length := hle
   refine zL (zM (zS (zB (zD (pR hl) 1 k rfl rfl rfl (by omega) rfl (zN (pR hl) 1 k 0 (fun _ => rfl) rfl rfl (by omega) rfl rfl (zH rfl (zA (zg (zC rfl (zC rfl (yL (pR (all_hl _ (yH (by omega)))) rfl rfl (xU (by kernel_rfl) rfl (zCq (by omega)) rfl ?_ (by kernel_rfl)))))))))))))
   refine zQ rfl rfl (fun w' hw => (zCn o (bs ++ yo (ps.take k)) (((zG ps k).2).length) w' (by first | omega | (simp <;> omega)) (by first | omega | (simp <;> omega) | (constructor <;> (first | omega | (simp <;> omega)))) (hw.rdVec0 0 rfl)).mono ?_)
   rintro r2_ w1 ⟨_, rfl, hO⟩
   refine (?_ : CL _ _ _ _ _ _ (Own w [] [Res.vec 5 1 o (bs ++ yo (ps.take k)).length ((bs ++ yo (ps.take k)).map vb), Res.vec 5 1 r2_ ((bs ++ yo (ps.take k)) ++ num (((zG ps k).2).length)).length (((bs ++ yo (ps.take k)) ++ num (((zG ps k).2).length)).map vb)])) w1 (hw.frame0 hO)
   refine zC rfl (zGR (l := ((bs ++ yo (ps.take k)) ++ num (((zG ps k).2).length))) (l' := (zG ps k).2) 1 (by kernel_rfl) rfl rfl rfl (fun w' hw' => Own.rd (all_hl _ (yH (by omega))) hw') (by first | omega | (simp; omega)) rfl (fun v22 => zH rfl (zA (zg (zw rfl rfl (zt (by omega)) rfl (zC rfl ?_))))))
   exact zf (fun w' hw => ⟨k + 1, v22, ⟨rfl, rfl, rfl, rfl, trivial⟩, (by omega), by rw [xA (by omega)]; have h := hw.one 1 rfl; simpa [yo, dat] using h, (by omega)⟩)
  ·
   refine yA rfl (zB (zC rfl (zH rfl (zA ?_))))
   exact zR (z3 (v := o) rfl rfl (fun w' hw => ⟨o, rfl, by rw [List.take_of_length_le (by omega)] at hw; exact hw⟩))
theorem zJS {S : List Nat} (o : Nat) (sl : Value) (bs : List UInt8) (lv : Value) (ps : List (Value × List UInt8)) (w : World) (hb : bs.length + (yo ps).length ≤ 100000000000) (hn : zx ps.length) (hin : Own w S [Res.bv o xQ sl bs] w) (hl : Rd w S (Res.sl lv ps.length (ps.flatMap pv))) (all_hl : ∀ p ∈ ps, BsRd p w S) : Rets Try.prog 41 #[.pointer (some ⟨o, 0, none⟩), lv] w fun u_ w' => ∃ (sl' : Value), u_ = .tuple #[] ∧ Own w S [Res.bv o xQ sl' (bs ++ yo ps)] w' := by
  refine zh Try.func41 rfl Try.ntmps41 hin ?_
  refine zg (zC rfl (zC rfl (yB rfl rfl (zW (o := 0) rfl rfl ?_))))
  refine zBo [Res.row o xQ [sl], Res.vec 5 1 sl bs.length (bs.map vb)] (fun w' hw => hw.splitBv (i := 0) (o := o) (T := xQ) (v := sl) (bs := bs) rfl) ?_
  refine zd 0 (v := sl) rfl rfl rfl rfl (zC rfl (zQ rfl rfl (fun w' hw => (zDi sl bs lv ps w' (by first | omega | (simp <;> omega)) (by first | assumption | omega | (simp <;> omega) | (constructor <;> (first | omega | (simp only [zx]; omega) | (simp <;> omega)))) (hw.rdVec0 1 rfl) (hw.rd0 hl) (fun p hp => BsRd.at0 (all_hl p hp) hw)).mono ?_)))
  rintro r1_ w1 ⟨_, rfl, hO⟩
  refine (?_ : CL _ _ _ _ _ _ (Own w S [Res.row o xQ [sl], Res.vec 5 1 sl bs.length (bs.map vb), Res.vec 5 1 r1_ (bs ++ yo ps).length ((bs ++ yo ps).map vb)])) w1 (hw.frame0 hO)
  refine yB rfl rfl (zW (o := 0) rfl rfl ?_)
  refine zAs (fun w' hw => Own.cell1Vec (i := 2) rfl hw) (fun hc1_ => ?_)
  refine zAb (cs := [sl]) 0 rfl rfl rfl hc1_ rfl ?_
  exact zf (ji rfl (fun w' hw => ⟨r1_, rfl, (hw.joinBv (i := 0) (j := 2) (o := o) (T := xQ) (v := r1_) (bs := bs ++ yo ps) (by decide) rfl rfl).one 0 rfl⟩))
structure EntA where
  index : Nat
  term : Nat
  kind : Int
  delta : Int
  data : List UInt8
  deriving DecidableEq, Inhabited
structure EntD extends EntA where
  dv : Value
  deriving Inhabited
structure EntA.wf (x : EntA) : Prop where
  index : x.index < 18446744073709551616
  term : x.term < 18446744073709551616
  data : x.data.length ≤ 1000000000
def EntD.cells (x : EntD) : List Value := [.int .u64 x.index, .int .u64 x.term, .int .i64 x.kind, .int .i64 x.delta, x.dv]
structure EntD.rd (x : EntD) (w : World) (S : List Nat) : Prop where
  dv : Rd w S (Res.sl x.dv x.data.length (x.data.map vb))
theorem EntD.rd.at0 {x : EntD} {w0 w : World} {S : List Nat} {L : List Res} (h : x.rd w0 S) (hw : Own w0 S L w) : x.rd w [] := ⟨hw.rd0 h.dv⟩
theorem EntD.rd.at {x : EntD} {w0 w : World} {S : List Nat} {L Lin : List Res} (h : x.rd w0 S) (hw : Own w0 S L w) (m : List Nat) (hm : m.mapM (fun i => L[i]?) = some Lin) : x.rd w (xr Lin) := ⟨hw.rdTo h.dv m hm⟩
def EntD.dres (x : EntD) : Res := Res.vec 5 1 x.dv x.data.length (x.data.map vb)
theorem EntD.dres_rd {x : EntD} {w : World} {S : List Nat} (h : Rd w S x.dres) : x.rd w S := ⟨h.sub Vec.sl zA7⟩
theorem EntD.rd.star {es : List EntD} {w0 w : World} {S : List Nat} {L Lin : List Res} (j : Nat) (hL : L[j]? = some (Res.star (es.map EntD.dres))) (m : List Nat) (hm : m.mapM (fun i => L[i]?) = some Lin) (hj : m.any (Nat.beq j) = false) (h : Own w0 S L w) : ∀ p ∈ es, p.rd w (xr Lin) := fun p hp => EntD.dres_rd (h.star j hL m hm hj _ (List.mem_map_of_mem hp))
def EntA.ok (x : EntA) : Prop := ((1 ≤ x.index ∧ 1 ≤ x.term) ∧ (x.index ≤ 4611686018427387904 ∧ x.term ≤ 4611686018427387904) ∧ (0 ≤ x.delta ∧ x.delta ≤ 1099511627776) ∧ x.data.length ≤ 4096) ∧
  if x.kind = 1 then x.data.length = 0 else if x.kind = 3 then (zHo x.data).isSome = true else x.kind = 2
instance (x : EntA) : Decidable x.ok := by unfold EntA.ok; infer_instance
def EntA.enc (x : EntA) : List UInt8 := yX [x.index, x.term, u64 x.kind, u64 x.delta] ++ dat x.data
end Go.Proofs.Ytcdiehplbmkmeaa
