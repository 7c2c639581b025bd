import Derived.Test.YtcdiehplbmkmeaaGreatIn
import Derived.Test.YtcdiehplbmkmeaaGreatConfDec
import Derived.Test.YtcdiehplbmkmeaaGreatFwB
import Derived.ChangeKeysEq
set_option linter.unusedSectionVars false
set_option linter.unusedSimpArgs false
set_option linter.unusedVariables false
set_option maxRecDepth 10000
namespace Go.Proofs.YtcdiehplbmkmeaaGreat
open Go Go.Sc Go.Proofs
def pv (p : Value × List UInt8) : List Value := [p.1]
abbrev BsRd (p : Value × List UInt8) (w : World) (S : List Nat) : Prop := Rd w S (Res.sl p.1 p.2.length (p.2.map vb))
theorem BsRd.at0 {p : Value × List UInt8} {w0 w : World} {S : List Nat} {L : List Res} (h : BsRd p w0 S) (hw : Own w0 S L w) : BsRd p w [] := hw.rd0 h
theorem BsRd.at {p : Value × List UInt8} {w0 w : World} {S : List Nat} {L Lin : List Res} (h : BsRd p w0 S) (hw : Own w0 S L w) (m : List Nat) (hm : m.mapM (fun i => L[i]?) = some Lin) : BsRd p w (x6 Lin) := hw.rdTo h m hm
def y4 (ps : List (Value × List UInt8)) : List UInt8 := ps.flatMap fun p => dat p.2
theorem zET (v : Value) (bs : List UInt8) (lv : Value) (ps : List (Value × List UInt8)) (w : World) (hb : bs.length + (y4 ps).length ≤ 100000000000) (hn : z6 ps.length) (hv : Rd w [] (Res.sl v bs.length (bs.map vb))) (hl : Rd w [] (Res.sl lv ps.length (ps.flatMap pv))) (all_hl : ∀ p ∈ ps, BsRd p w []) : Rets Tryz.prog 75 #[v, lv] w fun u_ w' => ∃ (r : Value), u_ = r ∧ Own w [] [Res.vec 5 1 r (bs ++ y4 ps).length ((bs ++ y4 ps).map vb)] w' := by
  have hbl : bs.length ≤ 100000000000 := by omega
  refine ze Tryz.func75 rfl Tryz.ntmps75 (Own.start w) ?_
  refine zB (zH rfl (zA (zB (zC rfl (zQ rfl rfl (fun w' hw => (zGf v bs w' (by first | assumption | omega | (simp <;> omega) | (constructor <;> (first | omega | (simp only [z6]; omega) | (simp <;> omega)))) (hw.rd0 hv)).mono ?_))))))
  rintro r1_ w1 ⟨_, rfl, hO⟩
  refine (?_ : CL _ _ _ _ _ _ (Own w [] [Res.vec 5 1 r1_ bs.length (bs.map vb)])) w1 (hw.frame0 hO)
  refine zH rfl (zA (zL (zB (zC rfl (yY (pR hl) rfl rfl (zC rfl (zA (zW ?_))))))))
  refine xB (fun (k : Nat) (o : Value) => [(5, o), (10, lv), (11, Vj ps.length), (12, Vj k)]) (fun (k : Nat) (o : Value) => k ≤ ps.length) (fun (k : Nat) (o : Value) => [Res.vec 5 1 o (bs ++ y4 (ps.take k)).length ((bs ++ y4 (ps.take k)).map vb)]) (fun (k : Nat) (o : Value) => ps.length - k) (fun w' hw => ⟨0, r1_, ⟨rfl, rfl, rfl, rfl, trivial⟩, Nat.zero_le _, by simpa [y4] using hw⟩) (fun k o g hΦ => ?_)
  have hle := zBG (fun p : Value × List UInt8 => dat p.2) ps (k + 1)
  refine zB (z9 rfl rfl rfl (zA (zL (zV rfl (fun c1 => ?_) (fun c1 => ?_)))))
  ·
   rw [yP (by omega), List.flatMap_append] at hle
   simp only [List.length_append, List.flatMap_cons, List.flatMap_nil, List.append_nil, dat] at hle
   have hcl : (y4 (ps.take k)).length + ((num (zG ps k).2.length).length + (zG ps k).2.length) ≤ (y4 ps).length := hle
   refine zJ (zL (zW (zB (zF (pR hl) 1 k rfl rfl rfl (by omega) rfl (zP (pR hl) 1 k 0 (fun _ => rfl) rfl rfl (by omega) rfl rfl (zH rfl (zA (zY (zC rfl (zC rfl (yY (pR (all_hl _ (yR (by omega)))) rfl rfl (yp (by kernel_rfl) rfl (zAt (by omega)) rfl ?_ (by kernel_rfl)))))))))))))
   refine zQ rfl rfl (fun w' hw => (zDX o (bs ++ y4 (ps.take k)) (((zG ps k).2).length) w' (by first | omega | (simp <;> omega)) (by first | omega | (simp <;> omega) | (constructor <;> (first | omega | (simp <;> omega)))) (hw.rdVec0 0 rfl)).mono ?_)
   rintro r2_ w1 ⟨_, rfl, hO⟩
   refine (?_ : CL _ _ _ _ _ _ (Own w [] [Res.vec 5 1 o (bs ++ y4 (ps.take k)).length ((bs ++ y4 (ps.take k)).map vb), Res.vec 5 1 r2_ ((bs ++ y4 (ps.take k)) ++ num (((zG ps k).2).length)).length (((bs ++ y4 (ps.take k)) ++ num (((zG ps k).2).length)).map vb)])) w1 (hw.frame0 hO)
   refine zC rfl (zGC (l := ((bs ++ y4 (ps.take k)) ++ num (((zG ps k).2).length))) (l' := (zG ps k).2) 1 (by kernel_rfl) rfl rfl rfl (fun w' hw' => Own.rd (all_hl _ (yR (by omega))) hw') (by first | omega | (simp; omega)) rfl (fun v22 => zH rfl (zA (zY (zn rfl rfl (zh (by omega)) rfl (zC rfl ?_))))))
   exact zd (fun w' hw => ⟨k + 1, v22, ⟨rfl, rfl, rfl, rfl, trivial⟩, (by omega), by rw [yP (by omega)]; have h := hw.one 1 rfl; simpa [y4, dat] using h, (by omega)⟩)
  ·
   refine yB rfl (zB (zC rfl (zH rfl (zA ?_))))
   exact zN (z4 (v := o) rfl rfl (fun w' hw => ⟨o, rfl, by rw [List.take_of_length_le (by omega)] at hw; exact hw⟩))
theorem zKm {S : List Nat} (o : Nat) (sl : Value) (bs : List UInt8) (lv : Value) (ps : List (Value × List UInt8)) (w : World) (hb : bs.length + (y4 ps).length ≤ 100000000000) (hn : z6 ps.length) (hin : Own w S [Res.bv o xa sl bs] w) (hl : Rd w S (Res.sl lv ps.length (ps.flatMap pv))) (all_hl : ∀ p ∈ ps, BsRd p w S) : Rets Tryz.prog 61 #[.pointer (some ⟨o, 0, none⟩), lv] w fun u_ w' => ∃ (sl' : Value), u_ = .tuple #[] ∧ Own w S [Res.bv o xa sl' (bs ++ y4 ps)] w' := by
  refine ze Tryz.func61 rfl Tryz.ntmps61 hin ?_
  refine zY (zC rfl (zC rfl (zt rfl rfl (zO (o := 0) rfl rfl ?_))))
  refine zCK [Res.row o xa [sl], Res.vec 5 1 sl bs.length (bs.map vb)] (fun w' hw => hw.splitBv (i := 0) (o := o) (T := xa) (v := sl) (bs := bs) rfl) ?_
  refine zU 0 (v := sl) rfl rfl rfl rfl (zC rfl (zQ rfl rfl (fun w' hw => (zET sl bs lv ps w' (by first | omega | (simp <;> omega)) (by first | assumption | omega | (simp <;> omega) | (constructor <;> (first | omega | (simp only [z6]; omega) | (simp <;> omega)))) (hw.rdVec0 1 rfl) (hw.rd0 hl) (fun p hp => BsRd.at0 (all_hl p hp) hw)).mono ?_)))
  rintro r1_ w1 ⟨_, rfl, hO⟩
  refine (?_ : CL _ _ _ _ _ _ (Own w S [Res.row o xa [sl], Res.vec 5 1 sl bs.length (bs.map vb), Res.vec 5 1 r1_ (bs ++ y4 ps).length ((bs ++ y4 ps).map vb)])) w1 (hw.frame0 hO)
  refine zt rfl rfl (zO (o := 0) rfl rfl ?_)
  refine xc (fun w' hw => Own.cell1Vec (i := 2) rfl hw) (fun hc1_ => ?_)
  refine yn (cs := [sl]) 0 rfl rfl rfl hc1_ rfl ?_
  exact zd (j8 rfl (fun w' hw => ⟨r1_, rfl, (hw.joinBv (i := 0) (j := 2) (o := o) (T := xa) (v := r1_) (bs := bs ++ y4 ps) (by decide) rfl rfl).one 0 rfl⟩))
structure EntA where
  index : Nat
  term : Nat
  kind : Int
  delta : Int
  data : List UInt8
  deriving DecidableEq, Inhabited
structure EntD extends EntA where
  dv : Value
  deriving Inhabited
structure EntA.wf (x : EntA) : Prop where
  index : x.index < 18446744073709551616
  term : x.term < 18446744073709551616
  data : x.data.length ≤ 1000000000
def EntD.cells (x : EntD) : List Value := [.int .u64 x.index, .int .u64 x.term, .int .i64 x.kind, .int .i64 x.delta, x.dv]
structure EntD.rd (x : EntD) (w : World) (S : List Nat) : Prop where
  dv : Rd w S (Res.sl x.dv x.data.length (x.data.map vb))
theorem EntD.rd.at0 {x : EntD} {w0 w : World} {S : List Nat} {L : List Res} (h : x.rd w0 S) (hw : Own w0 S L w) : x.rd w [] := ⟨hw.rd0 h.dv⟩
theorem EntD.rd.at {x : EntD} {w0 w : World} {S : List Nat} {L Lin : List Res} (h : x.rd w0 S) (hw : Own w0 S L w) (m : List Nat) (hm : m.mapM (fun i => L[i]?) = some Lin) : x.rd w (x6 Lin) := ⟨hw.rdTo h.dv m hm⟩
def EntD.dres (x : EntD) : Res := Res.vec 5 1 x.dv x.data.length (x.data.map vb)
theorem EntD.dres_rd {x : EntD} {w : World} {S : List Nat} (h : Rd w S x.dres) : x.rd w S := ⟨h.sub Vec.sl zAR⟩
theorem EntD.rd.star {es : List EntD} {w0 w : World} {S : List Nat} {L Lin : List Res} (j : Nat) (hL : L[j]? = some (Res.star (es.map EntD.dres))) (m : List Nat) (hm : m.mapM (fun i => L[i]?) = some Lin) (hj : m.any (Nat.beq j) = false) (h : Own w0 S L w) : ∀ p ∈ es, p.rd w (x6 Lin) := fun p hp => EntD.dres_rd (h.star j hL m hm hj _ (List.mem_map_of_mem hp))
def EntA.ok (x : EntA) : Prop := ((1 ≤ x.index ∧ 1 ≤ x.term) ∧ (x.index ≤ 4611686018427387904 ∧ x.term ≤ 4611686018427387904) ∧ (0 ≤ x.delta ∧ x.delta ≤ 1099511627776) ∧ x.data.length ≤ 4096) ∧
  if x.kind = 1 then x.data.length = 0 else if x.kind = 3 then (zIi x.data).isSome = true else x.kind = 2
instance (x : EntA) : Decidable x.ok := by unfold EntA.ok; infer_instance
def EntA.enc (x : EntA) : List UInt8 := yu [x.index, x.term, u64 x.kind, u64 x.delta] ++ dat x.data
structure ShtA where
  index : Nat
  term : Nat
  conf : ConfA
  data : List UInt8
  deriving DecidableEq
structure ShtD where
  index : Nat
  term : Nat
  conf : ConfD
  dv : Value
  data : List UInt8
def ShtD.a (x : ShtD) : ShtA := ⟨x.index, x.term, x.conf.a, x.data⟩
structure ShtD.wf (x : ShtD) : Prop where
  index : x.index < 18446744073709551616
  term : x.term < 18446744073709551616
  conf : x.conf.few
  data : x.data.length ≤ 1000000000
def ShtD.cells (x : ShtD) : List Value := [.int .u64 x.index, .int .u64 x.term] ++ (x.conf.cells ++ [x.dv])
structure ShtD.rd (x : ShtD) (w : World) (S : List Nat) : Prop where
  conf : x.conf.rd w S
  dv : Rd w S (Res.sl x.dv x.data.length (x.data.map vb))
theorem ShtD.rd.at0 {x : ShtD} {w0 w : World} {S : List Nat} {L : List Res} (h : x.rd w0 S) (hw : Own w0 S L w) : x.rd w [] := ⟨h.conf.at0 hw, hw.rd0 h.dv⟩
theorem ShtD.rd.at {x : ShtD} {w0 w : World} {S : List Nat} {L Lin : List Res} (h : x.rd w0 S) (hw : Own w0 S L w) (m : List Nat) (hm : m.mapM (fun i => L[i]?) = some Lin) : x.rd w (x6 Lin) := ⟨h.conf.at hw m hm, hw.rdTo h.dv m hm⟩
def ShtA.ok (x : ShtA) : Prop := (((x.conf.ok ∧ x.data.length ≤ 32768) ∧ (x.index = 0 ↔ x.term = 0)) ∧ x.index ≤ 4611686018427387904) ∧ x.term ≤ 4611686018427387904
instance (x : ShtA) : Decidable x.ok := inferInstanceAs (Decidable ((((_ ∧ _) ∧ _) ∧ _) ∧ _))
def ConfA.enc (c : ConfA) : List UInt8 := zIe c.vs ++ zIe c.ls
def ShtA.enc (x : ShtA) : List UInt8 := yu [x.index, x.term] ++ x.conf.enc ++ dat x.data
structure HrdD where
  term : Nat
  vote : Int
  deriving DecidableEq
def HrdD.cells (x : HrdD) : List Value := [.int .u64 x.term, .int .i64 x.vote]
def HrdD.ok (x : HrdD) : Prop := 0 ≤ x.vote ∧ x.vote ≤ 16
instance (x : HrdD) : Decidable x.ok := inferInstanceAs (Decidable (_ ∧ _))
def HrdD.enc (x : HrdD) : List UInt8 := yu [x.term, u64 x.vote]
end Go.Proofs.YtcdiehplbmkmeaaGreat
set_option linter.unusedVariables false
set_option linter.unusedSectionVars false
namespace Go.Sc
def zLs (P : Program) (f : Field) : Option (List (Nat × Option (Option IntKind))) :=
  if f.name = "_" then none else
    match P.underlying f.type with
    | some (.int k) => some [(f.offset, some (some k))]
    | some .string => some [(f.offset, some none)]
    | some .bool => some [(f.offset, none)]
    | some (.struct _) =>
      match zBQ P f.type with
      | some ks => if (P.info? f.type).isSome && ks.all (fun q => q.1 < P.cellsOf f.type) then some (ks.map fun q => (f.offset + q.1, q.2)) else none
      | none => none
    | _ => none
def flat2 (P : Program) (t : TypeId) : Option (List (List (Nat × Option (Option IntKind)))) :=
  match P.underlying t with
  | some (.struct fs) => if P.stoodInHeld t then none else fs.toList.mapM (zLs P)
  | _ => none
section
variable {P : Program}
variable {n : Nat} {ops : Array Oper} {N : K} {f : Nat → Value} {A : World → Prop} {rest : List Oper} {d : Nat} {ty : TypeId} {p : String} {af : Array Edge} {x y : Operand} {t t' : TypeId}
end
end Go.Sc
