import Derived.Test.YthincafbmpialaaGreatEnc
import Derived.Test.YthincafbmpialaaGreatFwB
import Derived.ChangeKeysEq
set_option linter.unusedSectionVars false
set_option linter.unusedSimpArgs false
set_option linter.unusedVariables false
set_option maxRecDepth 10000
namespace Go.Proofs.YthincafbmpialaaGreat
open Go Go.Sc Go.Proofs
theorem zDL (v : Value) (l : List EntD) (w : World) (hl : l.length ≤ 10000000) (hd : ∀ x ∈ l, x.data.length ≤ 1000000000) (hv : Rd w [] (Res.sl v l.length (l.flatMap EntD.cells))) (all_hv : ∀ p ∈ l, EntD.rd p w []) : Rets Tryz.prog 22 #[v] w fun u_ w' => ∃ (r : Value) (es : List EntD), u_ = r ∧ es.map EntD.toEntA = l.map EntD.toEntA ∧ Own w [] [Res.vec 57 5 r es.length (es.flatMap EntD.cells), Res.star (es.map EntD.dres)] w' := by
  refine zW Tryz.func22 rfl Tryz.ntmps22 (Own.start w) ?_
  refine zB (zD rfl (zA (zB (zD rfl (zA (zL (zB (zD rfl (zA (zT ?_))))))))))
  refine xS (fun (k : Nat) (lv : Value) (es : List EntD) => [(0, v), (3, lv), (4, Vj k)]) (fun (k : Nat) (lv : Value) (es : List EntD) => k ≤ l.length ∧ es.map EntD.toEntA = (l.take k).map EntD.toEntA) (fun (k : Nat) (lv : Value) (es : List EntD) => [Res.vec 57 5 lv es.length (es.flatMap EntD.cells), Res.star (es.map EntD.dres)]) (fun (k : Nat) (lv : Value) (es : List EntD) => l.length - k) (fun w' hw => ⟨0, .slice none 0 0, [], ⟨rfl, rfl, rfl, trivial⟩, ⟨Nat.zero_le _, rfl⟩, (yK hw 57 5).starNil⟩) (fun k lv es g hΦ => ?_)
  have hlen : es.length = min k l.length := by have := congrArg List.length hΦ.2; simpa using this
  refine zL (zB (zC rfl (zC rfl (yC (pR hv) rfl rfl (yI rfl rfl rfl (zA (zU rfl (fun c1 => ?_) (fun c1 => ?_))))))))
  ·
   have hnd := hd _ (yM (l := l) (j := k) (by omega))
   refine zK (zL (zT (zB (zC rfl (zC rfl (zH (pR hv) 5 k rfl rfl rfl (by omega) rfl (xh (pR hv) 5 k (off := yn v + k * 5) (fun _ => rfl) rfl rfl (by omega) rfl (yF (v := .agg #[Vn 0, Vn 0, Vi 0, Vi 0, .slice none 0 0]) (by kernel_rfl) rfl (fun b5 => zh 2 rfl rfl rfl (zn rfl (zn rfl (zn rfl (zn rfl (zn (Sl.cell1 (Rd.φ ((all_hv _ (yM (by omega))).dv))) yt))))) rfl (zA (zB (yj (e := 5) (sz := 1) (vs := []) (by kernel_rfl) rfl rfl (by simp [Value.cells]) (by decide) rfl (fun b16 => ?_)))))))))))))
   refine zP (o := 4) rfl rfl (zS 2 (v := (zI l k).dv) rfl rfl rfl rfl (zCi (l := ([] : List UInt8)) (l' := (zI l k).data) 3 (by kernel_rfl) rfl rfl rfl (fun w' hw' => Own.rd ((all_hv _ (yM (by omega))).dv) hw') (by first | omega | (simp; omega)) rfl (fun v19 => zP (o := 4) rfl rfl ?_)))
   refine yS (fun w' hw => Own.cell1Vec (i := 3) rfl hw) (fun hc1_ => ?_)
   refine yi (cs := (EntD.cells (zI l k))) 2 rfl rfl rfl hc1_ rfl (zA (zd (zC rfl (yN 2 rfl rfl rfl (yj (e := 57) (sz := 5) (vs := [.agg #[Vn ((zI l k).index), Vn ((zI l k).term), Vi ((zI l k).kind), Vi ((zI l k).delta), v19]]) (by kernel_rfl) rfl rfl (by simp [Value.cells, EntD.cells]) (by decide) rfl (fun b23 => yu (g := EntD.cells) (sz := 5) (by' := 56) (fun _ => rfl) (l := es) (l' := [({ (zI l k) with dv := v19 } : EntD)]) (all_cons ((zn rfl (zn rfl (zn rfl (zn rfl (zn hc1_ yt)))))) (by simp)) 0 (by kernel_rfl) rfl rfl rfl (fun w' hw' => Vec.sl (Own.holds hw' 4 _ rfl)) (by first | omega | (simp; omega)) (by decide) rfl (fun v24 => zD rfl (zA (zd (zC rfl (zt rfl rfl (zr (by omega)) rfl (zD rfl ?_))))))))))))
   exact zj (fun w' hw => ⟨k + 1, v24, es ++ [({ (zI l k) with dv := v19 } : EntD)], ⟨rfl, rfl, rfl, trivial⟩, ⟨by omega, by rw [List.map_append, yB (by omega), List.map_append, hΦ.2]; rfl⟩, ((hw.starMap (x := ({ (zI l k) with dv := v19 } : EntD)) 1 3 (by decide) rfl rfl).sel [0, 1] rfl (by decide)), (by omega)⟩)
  ·
   refine yG rfl (zB (zC rfl (zD rfl (zA ?_))))
   exact zM (z6 (v := lv) rfl rfl (fun w' hw => ⟨lv, es, rfl, by rw [hΦ.2, List.take_of_length_le (by omega)], hw⟩))
structure ShtA where
  index : Nat
  term : Nat
  conf : ConfA
  data : List UInt8
  deriving DecidableEq
structure ShtD where
  index : Nat
  term : Nat
  conf : ConfD
  dv : Value
  data : List UInt8
def ShtD.a (x : ShtD) : ShtA := ⟨x.index, x.term, x.conf.a, x.data⟩
structure ShtD.wf (x : ShtD) : Prop where
  index : x.index < 18446744073709551616
  term : x.term < 18446744073709551616
  conf : x.conf.few
  data : x.data.length ≤ 1000000000
def ShtD.cells (x : ShtD) : List Value := [.int .u64 x.index, .int .u64 x.term] ++ (x.conf.cells ++ [x.dv])
structure ShtD.rd (x : ShtD) (w : World) (S : List Nat) : Prop where
  conf : x.conf.rd w S
  dv : Rd w S (Res.sl x.dv x.data.length (x.data.map vb))
theorem ShtD.rd.at0 {x : ShtD} {w0 w : World} {S : List Nat} {L : List Res} (h : x.rd w0 S) (hw : Own w0 S L w) : x.rd w [] := ⟨h.conf.at0 hw, hw.rd0 h.dv⟩
theorem ShtD.rd.at {x : ShtD} {w0 w : World} {S : List Nat} {L Lin : List Res} (h : x.rd w0 S) (hw : Own w0 S L w) (m : List Nat) (hm : m.mapM (fun i => L[i]?) = some Lin) : x.rd w (xZ Lin) := ⟨h.conf.at hw m hm, hw.rdTo h.dv m hm⟩
def ShtA.ok (x : ShtA) : Prop := (((x.conf.ok ∧ x.data.length ≤ 32768) ∧ (x.index = 0 ↔ x.term = 0)) ∧ x.index ≤ 4611686018427387904) ∧ x.term ≤ 4611686018427387904
instance (x : ShtA) : Decidable x.ok := inferInstanceAs (Decidable ((((_ ∧ _) ∧ _) ∧ _) ∧ _))
def ConfA.enc (c : ConfA) : List UInt8 := zHJ c.vs ++ zHJ c.ls
def ShtA.enc (x : ShtA) : List UInt8 := y7 [x.index, x.term] ++ x.conf.enc ++ dat x.data
theorem ConfD.enc_le {c : ConfD} : c.enc.length ≤ 9 * (c.vs.length + c.ls.length + 2) := by
  have h1 := zBq c.vs
  have h2 := zBq c.ls
  simp only [ConfD.enc, List.length_append]; omega
theorem ShtD.enc_le {x : ShtD} (h : x.wf) : x.a.enc.length ≤ x.data.length + 9 * (x.conf.vs.length + x.conf.ls.length + 2) + 40 := by
  have h1 := xv (ns := [x.index, x.term]) (by have := h.index; have := h.term; simp [*])
  have h2 := zA2 x.data (by have := h.data; omega)
  have h3 : x.a.conf.enc.length ≤ _ := x.conf.enc_le
  have e : x.a.enc.length = (y7 [x.index, x.term]).length + x.a.conf.enc.length + (dat x.data).length := by simp [ShtA.enc, ShtD.a]; omega
  simp only [List.length_cons, List.length_nil] at h1
  omega
def confsC : List Value := [.func (.func 173) #[] #[], .func (.func 178) #[] #[], .func (.func 180) #[] #[]]
structure HrdD where
  term : Nat
  vote : Int
  deriving DecidableEq
def HrdD.cells (x : HrdD) : List Value := [.int .u64 x.term, .int .i64 x.vote]
def HrdD.ok (x : HrdD) : Prop := 0 ≤ x.vote ∧ x.vote ≤ 16
instance (x : HrdD) : Decidable x.ok := inferInstanceAs (Decidable (_ ∧ _))
def HrdD.enc (x : HrdD) : List UInt8 := y7 [x.term, u64 x.vote]
end Go.Proofs.YthincafbmpialaaGreat
set_option linter.unusedVariables false
set_option linter.unusedSectionVars false
namespace Go.Sc
def zNN (P : Program) (f : Field) : Option (List (Nat × Option (Option IntKind))) :=
  if f.name = "_" then none else
    match P.underlying f.type with
    | some (.int k) => some [(f.offset, some (some k))]
    | some .string => some [(f.offset, some none)]
    | some .bool => some [(f.offset, none)]
    | some (.struct _) =>
      match zEn P f.type with
      | some ks => if (P.info? f.type).isSome && ks.all (fun q => q.1 < P.cellsOf f.type) then some (ks.map fun q => (f.offset + q.1, q.2)) else none
      | none => none
    | _ => none
def flat2 (P : Program) (t : TypeId) : Option (List (List (Nat × Option (Option IntKind)))) :=
  match P.underlying t with
  | some (.struct fs) => if P.stoodInHeld t then none else fs.toList.mapM (zNN P)
  | _ => none
section
variable {P : Program}
variable {n : Nat} {ops : Array Oper} {N : K} {f : Nat → Value} {A : World → Prop} {rest : List Oper} {d : Nat} {ty : TypeId} {p : String} {af : Array Edge} {x y : Operand} {t t' : TypeId}
end
end Go.Sc
