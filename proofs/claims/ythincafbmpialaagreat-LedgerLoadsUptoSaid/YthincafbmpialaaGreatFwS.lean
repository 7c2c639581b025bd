import Derived.Test.YthincafbmpialaaGreatFwB
import Derived.Test.YthincafbmpialaaGreatRows
import Derived.WalkKit
import Derived.ProofKit
import Derived.OpenShut
import Derived.ShutString
import Derived.ChangeOld
import Derived.Below
import Derived.Carry
import Derived.JoinedCond
set_option linter.unusedSimpArgs false
set_option linter.unusedVariables false
set_option linter.unusedSectionVars false
namespace Go.Proofs.YthincafbmpialaaGreat
open Go Go.Sc Go.Proofs Go.RowKit Go.ChangeShapes
theorem zAx {H : Type} : ∀ ds : List (DataW H), Rows.uptoBulkAll ds = (ds.map Rows.uptoBulk).sum
  | [] => rfl
  | d :: ds => by simp [Rows.uptoBulkAll, zAx ds]
def RdA (P : Program) (W : World) (t : TypeId) {α : Type} (cells : α → List Value) (wf : α → Prop) (size : α → Nat) : Prop :=
  ∀ (H : Type) (enc : TypeId × Value → H) (fuel : Nat) (cs : List Value) (x : DataW H × List MemPlace), DataW.trod enc P W 0 (fun _ => true) true fuel t cs = some x → ∃ a, cs = cells a ∧ wf a ∧ size a ≤ Rows.uptoBulk x.1
variable {P : Program} {W : World} {t e : TypeId} {α β : Type}
theorem RdA.map {cells : α → List Value} {wf : α → Prop} {size : α → Nat} {cells' : β → List Value} {wf' : β → Prop} {size' : β → Nat} (h : RdA P W t cells wf size) (φ : α → β)
    (h1 : ∀ a, cells a = cells' (φ a)) (h2 : ∀ a, wf a → wf' (φ a)) (h3 : ∀ a, wf a → size' (φ a) ≤ size a) : RdA P W t cells' wf' size' := by
  intro H enc fuel cs x hx
  obtain ⟨a, e1, e2, e3⟩ := h H enc fuel cs x hx
  exact ⟨φ a, by rw [e1, h1], h2 a e2, Nat.le_trans (h3 a e2) e3⟩
theorem RdA.i64 (ht : P.underlying t = some (.int .i64)) : RdA P W t (fun a : Int => [.int .i64 a]) xY (fun _ => 1) := by
  intro H enc fuel cs x hx
  obtain ⟨a, rfl, rfl, hw⟩ := DataW.trod_int ht hx
  refine ⟨a, rfl, ?_, by simp [Rows.uptoBulk]⟩
  simp [Lit.wf, IntKind.min, IntKind.max, IntKind.signed, IntKind.bits] at hw
  exact ⟨by omega, by omega⟩
theorem RdA.u64 (ht : P.underlying t = some (.int .u64)) : RdA P W t (fun n : Nat => [.int .u64 n]) isU (fun _ => 1) := by
  intro H enc fuel cs x hx
  obtain ⟨a, rfl, rfl, hw⟩ := DataW.trod_int ht hx
  simp [Lit.wf, IntKind.min, IntKind.max, IntKind.signed, IntKind.bits] at hw
  refine ⟨a.toNat, by show _ = [Value.int .u64 (a.toNat : Int)]; rw [Int.toNat_of_nonneg (by omega)], ?_, by simp [Rows.uptoBulk]⟩
  unfold isU
  omega
theorem RdA.byte (ht : P.underlying t = some (.int .u8)) : RdA P W t (fun c : UInt8 => [vb c]) (fun _ => True) (fun _ => 1) := by
  intro H enc fuel cs x hx
  obtain ⟨a, rfl, rfl, hw⟩ := DataW.trod_int ht hx
  simp [Lit.wf, IntKind.min, IntKind.max, IntKind.signed, IntKind.bits] at hw
  refine ⟨UInt8.ofNat a.toNat, ?_, trivial, by simp [Rows.uptoBulk]⟩
  show _ = [vb (UInt8.ofNat a.toNat)]
  simp only [vb, UInt8.toNat_ofNat']
  congr 2
  omega
theorem RdA.bool (ht : P.underlying t = some .bool) : RdA P W t (fun b : Bool => [.bool b]) (fun _ => True) (fun _ => 1) := by
  intro H enc fuel cs x hx
  obtain ⟨a, rfl, rfl⟩ := DataW.trod_bool ht hx
  exact ⟨a, rfl, trivial, by simp [Rows.uptoBulk]⟩
theorem cells?_spec {w : World} {a : Addr} : ∀ {n : Nat} {cs : List Value}, w.cells? 0 a n = some cs → cs.length = n ∧ ∀ i u, cs[i]? = some u → w.cell? (a.add i) = some u := by
  intro n cs h
  unfold World.cells? at h
  rw [if_pos (Nat.zero_le _)] at h
  have hl : cs.length = n := by simpa using mapM_some_length h
  refine ⟨hl, fun i u hu => ?_⟩
  have hi : i < n := by rw [← hl]; exact (List.getElem?_eq_some_iff.1 hu).1
  have := mapM_some_get h i i (by simp [hi])
  rw [this, hu]
theorem RdA.slice {cells : α → List Value} {wf : α → Prop} {size : α → Nat} {sz : Nat} (ht : P.underlying t = some (.slice e)) (hsz : P.cellsOf e = sz) (hpos : 0 < sz) (hc : ∀ a, (cells a).length = sz) (he : RdA P W e cells wf size) :
    RdA P W t (fun p : Value × List α => [p.1]) (fun p => Sl W p.1 p.2.length (p.2.flatMap cells) ∧ ∀ a ∈ p.2, wf a) (fun p => (p.2.map size).sum + 1) := by
  intro H enc fuel cs x hx
  rcases DataW.trod_slice ht hx with ⟨rfl, rfl⟩ | ⟨a, len, cap, elems, rest, n, rfl, rfl, rfl, hb, hl, hm, hlen, hel, hsp, hns⟩
  · exact ⟨(.slice none 0 0, []), rfl, ⟨.inl ⟨none, rfl, rfl, rfl⟩, by simp⟩, by simp [Rows.uptoBulk]⟩
  · -- the elements, each one read
    have each : ∀ i, i < len → ∃ (y : DataW H × List MemPlace) (z : α), elems[i]? = some y ∧ wf z ∧ size z ≤ Rows.uptoBulk y.1 ∧ ∀ j u, (cells z)[j]? = some u → W.cell? ((a.add (i * sz)).add j) = some u := by
      intro i hi
      have h := hel i hi
      obtain ⟨y, hy⟩ : ∃ y, elems[i]? = some y := ⟨_, List.getElem?_eq_getElem (by omega)⟩
      rw [hy, hsz, Option.bind_eq_some_iff] at h
      obtain ⟨cs', hcs, hr⟩ := h
      obtain ⟨z, rfl, hz1, hz2⟩ := he H enc n cs' y hr
      exact ⟨y, z, hy, hz1, hz2, (cells?_spec hcs).2⟩
    have all : ∀ k, k ≤ len → ∃ zs : List α, zs.length = k ∧ (∀ z ∈ zs, wf z) ∧ (zs.map size).sum ≤ ((elems.take k).map fun y => Rows.uptoBulk y.1).sum ∧
        ∀ i z, zs[i]? = some z → ∀ j u, (cells z)[j]? = some u → W.cell? ((a.add (i * sz)).add j) = some u := by
      intro k
      induction k with
      | zero => intro _; exact ⟨[], rfl, by simp, by simp, by simp⟩
      | succ k ih =>
        intro hk
        obtain ⟨zs, h1, h2, h3, h4⟩ := ih (by omega)
        obtain ⟨y, z, hy, hz1, hz2, hz3⟩ := each k (by omega)
        refine ⟨zs ++ [z], by simp [h1], ?_, ?_, ?_⟩
        · intro z' hz'
          rcases List.mem_append.1 hz' with h | h
          · exact h2 z' h
          · simp at h; subst h; exact hz1
        · rw [List.take_add_one, hy]
          simp only [List.map_append, List.sum_append, Option.toList_some, List.map_cons, List.map_nil, List.sum_cons, List.sum_nil]
          omega
        · intro i z' hi
          rw [List.getElem?_append] at hi
          split at hi
          · exact h4 i z' hi
          · rename_i hnl
            have : i - zs.length = 0 := by
              cases hq : i - zs.length with
              | zero => rfl
              | succ q => rw [hq] at hi; simp at hi
            rw [this] at hi; simp at hi; subst hi
            have : i = k := by omega
            subst this; exact hz3
    obtain ⟨zs, h1, h2, h3, h4⟩ := all len (Nat.le_refl _)
    rw [List.take_of_length_le (by omega)] at h3
    refine ⟨(.slice (some a) len cap, zs), rfl, ⟨?_, h2⟩, ?_⟩
    · by_cases hc0 : cap = 0
      · subst hc0
        have h0 : len = 0 := by omega
        subst h0
        have : zs = [] := List.eq_nil_of_length_eq_zero h1
        subst this
        exact .inl ⟨_, rfl, rfl, rfl⟩
      · -- the row is there: its first place reads
        have first : ∃ u, W.cell? a = some u := by
          have key : ∀ i, i < cap → ∃ cs', W.cells? 0 (a.add (i * sz)) sz = some cs' := by
            intro i hi
            by_cases hil : i < len
            · have h := hel i hil
              rw [List.getElem?_eq_getElem (by omega), hsz, Option.bind_eq_some_iff] at h
              exact ⟨_, h.choose_spec.1⟩
            · obtain ⟨hr1, hr2⟩ := hsp rfl
              have h := hr2 (i - len) (by omega)
              rw [List.getElem?_eq_getElem (by omega), hsz, Option.bind_eq_some_iff, show len + (i - len) = i by omega] at h
              exact ⟨_, h.choose_spec.1⟩
          obtain ⟨cs', hcs⟩ := key 0 (by omega)
          obtain ⟨q1, q2⟩ := cells?_spec hcs
          refine ⟨cs'[0]'(by omega), ?_⟩
          have := q2 0 _ (List.getElem?_eq_getElem (by omega))
          simpa [Addr.add] using this
        obtain ⟨u, hu⟩ := first
        obtain ⟨b, off, spot⟩ := a
        have hspot : spot = none := World.cell?_spot hu
        subst hspot
        have hbl : b < W.heap.size := by
          have hcs : W.cells? 0 ⟨b, off, none⟩ 1 = some [u] := Go.ChangeShapes.cells?_one (Nat.zero_le _) hu
          exact World.cells?_block hcs (by omega)
        show Sl W (.slice (some ⟨b, off, none⟩) len cap) zs.length (zs.flatMap cells)
        rw [h1]
        refine .inr ⟨b, off, cap, rfl, ⟨hl, by omega⟩, hm, hbl, ?_⟩
        intro q u' hq
        have hlt : q < (zs.flatMap cells).length := (List.getElem?_eq_some_iff.1 hq).1
        rw [ky hc] at hlt
        have hq1 : q / sz < zs.length := Nat.div_lt_of_lt_mul (by rw [Nat.mul_comm]; exact hlt)
        have hq2 : q % sz < sz := Nat.mod_lt _ hpos
        obtain ⟨z, hz⟩ : ∃ z, zs[q / sz]? = some z := ⟨_, List.getElem?_eq_getElem hq1⟩
        have hdm : q / sz * sz + q % sz = q := by rw [Nat.mul_comm]; exact Nat.div_add_mod q sz
        have := zCt hc zs (q / sz) (q % sz) z hz hq2
        rw [hdm, hq] at this
        have h5 := h4 _ z hz _ u' this.symm
        have e5 : ((⟨b, off, none⟩ : Addr).add (q / sz * sz)).add (q % sz) = ⟨b, off + q, none⟩ := by
          simp only [jl]; rw [Nat.add_assoc, hdm]
        rw [e5] at h5
        exact h5
    · simp only [Rows.uptoBulk, zAx, List.map_map]
      have : (elems.map (Rows.uptoBulk ∘ fun x => x.1)).sum = (elems.map fun y => Rows.uptoBulk y.1).sum := rfl
      omega
def RdF (P : Program) (W : World) (tot : Nat) (fs : List Field) (off : Nat) {α : Type} (cells : α → List Value) (wf : α → Prop) (size : α → Nat) : Prop :=
  ∀ (H : Type) (enc : TypeId × Value → H) (n : Nat) (cs : List Value) (xs : List (DataW H × List MemPlace)), cs.length = tot → xs.length = fs.length →
    (∀ (i : Nat) (f : Field), fs[i]? = some f → DataW.trod enc P W 0 (fun _ => true) true n f.type ((cs.drop f.offset).take (P.cellsOf f.type)) = xs[i]?) →
    ∃ a, cs.drop off = cells a ∧ wf a ∧ size a ≤ (xs.map fun y => Rows.uptoBulk y.1).sum
theorem RdF.nil {tot off : Nat} (h : off = tot) : RdF P W tot [] off (fun _ : Unit => []) (fun _ => True) (fun _ => 0) := by
  subst h
  intro H enc n cs xs hl hx _
  exact ⟨(), by rw [← hl]; simp, trivial, Nat.zero_le _⟩
theorem RdF.cons {tot sz : Nat} {f : Field} {fs : List Field} {off : Nat} {ca : α → List Value} {wa : α → Prop} {sa : α → Nat} {cb : β → List Value} {wb : β → Prop} {sb : β → Nat}
    (ho : f.offset = off) (hs : P.cellsOf f.type = sz) (ha : RdA P W f.type ca wa sa) (hb : RdF P W tot fs (off + sz) cb wb sb) :
    RdF P W tot (f :: fs) off (fun p : α × β => ca p.1 ++ cb p.2) (fun p => wa p.1 ∧ wb p.2) (fun p => sa p.1 + sb p.2) := by
  intro H enc n cs xs hl hx hall
  cases xs with
  | nil => simp at hx
  | cons x xs =>
    obtain ⟨a, e1, e2, e3⟩ := ha H enc n _ x (by have := hall 0 f rfl; simpa using this)
    obtain ⟨b, d1, d2, d3⟩ := hb H enc n cs xs hl (by simpa using hx) (fun i g hg => by have := hall (i + 1) g (by simpa using hg); simpa using this)
    refine ⟨(a, b), ?_, ⟨e2, d2⟩, ?_⟩
    · rw [ho, hs] at e1
      show cs.drop off = ca a ++ cb b
      rw [← e1, ← d1, ← List.drop_drop, List.take_append_drop]
    · simp only [List.map_cons, List.sum_cons]
      show sa a + sb b ≤ _
      omega
theorem RdA.struct {fs : Array Field} {tot : Nat} {cells : α → List Value} {wf : α → Prop} {size : α → Nat} (ht : P.underlying t = some (.struct fs)) (hs : P.cellsOf t = tot) (hf : RdF P W tot fs.toList 0 cells wf size) :
    RdA P W t cells wf (fun a => size a + 1) := by
  intro H enc fuel cs x hx
  obtain ⟨xs, n, rfl, rfl, hl, hxl, hall⟩ := DataW.trod_struct ht hx
  obtain ⟨a, e1, e2, e3⟩ := hf H enc n cs xs (by rw [hl, hs]) (by rw [hxl]; simp) (fun i f hf => hall i f (by simpa using hf))
  refine ⟨a, by simpa using e1, e2, ?_⟩
  simp only [Rows.uptoBulk, zAx, List.map_map]
  have : (xs.map (Rows.uptoBulk ∘ fun x => x.1)).sum = (xs.map fun y => Rows.uptoBulk y.1).sum := rfl
  omega
theorem zHS {v u : Value} (h : v.cells.toList = [u]) (hn : ∀ cs, v ≠ .agg cs) : v = u := by
  cases v <;> simp_all [Value.cells]
theorem zDJ {r : Reach} {b0 : Nat} {v u : Value} (ht : P.underlying t = some (.slice e)) (h : Value.okWide P W r b0 t v) (hc : v.cells.toList = [u]) : v = u := by
  obtain ⟨a, len, cap, rfl⟩ := Go.WideShapes.okWide_slice ht h
  exact zHS hc (by simp)
theorem zAk {H : Type} {enc : TypeId × Value → H} (hl : laidOutB P = true) {W' : World} (hb : Below W.heap.size W W') : ∀ {ts : List TypeId} {vs : List Value} {ds : List (DataW H)} {ps : List MemPlace},
    ts.all (fun t => P.readableRec t && decide (t < P.types.size)) = true → DataW.TrodAll enc P W 0 (fun _ => true) true ts vs ds ps → (∀ x ∈ ps, x.block < W.heap.size) →
    DataW.TrodAll enc P W' 0 (fun b => decide (b < W.heap.size)) true ts vs ds ps
  | [], [], [], _, _, h, _ => h
  | [], _ :: _, _, _, _, h, _ => h.elim
  | [], [], _ :: _, _, _, h, _ => h.elim
  | _ :: _, [], _, _, _, h, _ => h.elim
  | _ :: _, _ :: _, [], _, _, h, _ => h.elim
  | t :: ts, v :: vs, d :: ds, ps, hr, h, hlt => by
    obtain ⟨p, q, h1, h2, rfl⟩ := h
    simp only [List.all_cons, Bool.and_eq_true, decide_eq_true_eq] at hr
    exact ⟨p, q, Below.trod hl hr.1.1 hr.1.2 h1 hb (fun x hx => hlt x (by simp [hx])), zAk hl hb hr.2 h2 (fun x hx => hlt x (by simp [hx])), rfl⟩
theorem zBs {H : Type} {enc : TypeId × Value → H} {base : Nat} {sp : Nat → Bool} {held : Bool} : ∀ {ts : List TypeId} {vs : List Value} {ds : List (DataW H)} {ps : List MemPlace}, DataW.TrodAll enc P W base sp held ts vs ds ps → ds.length = ts.length
  | [], [], [], _, _ => rfl
  | [], _ :: _, _, _, h => h.elim
  | [], [], _ :: _, _, h => h.elim
  | _ :: _, [], _, _, h => h.elim
  | _ :: _, _ :: _, [], _, h => h.elim
  | t :: ts, v :: vs, d :: ds, ps, h => by
    obtain ⟨p, q, h1, h2, rfl⟩ := h
    simp [zBs h2]
theorem zH1 {H : Type} {enc : TypeId × Value → H} {f : Func} {s : ChangeSpec} {W' : World} {args : Array Value} {ds gs : List (DataW H)} {before : List MemPlace} {tb : TypeId} (hl : laidOutB P = true) (hs : s.vars = [])
    (hfn : ∀ ds : List (DataW H), ds.length = f.params.toList.length → s.fn H ds = { results := [.lit (.bool true)], args := ds }) (hres : f.resultTypes = #[tb]) (htb : P.underlying tb = some .bool)
    (hts : f.params.toList.all (fun t => P.readableRec t && decide (t < P.types.size)) = true)
    (hW : DataW.Whole enc P f.params.toList s.vars false W args.toList ds gs before) (hb : Below W.heap.size W W') : s.post enc P f false true false false W args (.bool true) W' := by
  have hlt := hW.lt
  have hW' := hW
  obtain ⟨p, q, hA, hV, rfl, hfz, hnd⟩ := hW
  rw [hs] at hV
  obtain ⟨rfl, rfl⟩ := trodVars_none hV
  have hfn' := hfn ds (zBs hA)
  rw [List.append_nil] at hlt hW'
  refine ⟨ds, [], p, [], p, [], hW', ?_, ?_, ?_, hb.frame _, fun h => by cases h⟩
  · rw [List.append_nil, hfn', hres]
    exact trodAll_mk1 (shut_bool htb _)
  · rw [List.append_nil, hfn']
    exact zAk hl hb hts hA hlt
  · rw [List.append_nil, hfn', hs]
    rfl
theorem Own.below {w w' : World} {L : List Res} (h : Own w [] L w') : Below w.heap.size w w' :=
  ⟨h.keep.os, h.keep.tape, h.keep.output, h.keep.size, fun k hk => h.keep.block k hk (by simp)⟩
end Go.Proofs.YthincafbmpialaaGreat
set_option linter.unusedVariables false
namespace Go.Sc
section
variable {P : Program} {n : Nat} {ops : Array Oper} {N R : K} {X : List (Nat × K)} {f : Nat → Value} {W : World → Prop} {w w0 : World} {S : List Nat} {L : List Res}
variable {d : Nat} {ty t e : TypeId} {p : String} {af : Array Edge} {fuel sz by' : Nat} {listed : Array Bool} {x y : Operand}
def PK (P : Program) (n : Nat) (ops : Array Oper) (W : World → Prop) (N : K) (fuel : Nat) (listed : Array Bool) (i : Nat) (f : Nat → Value) (w : World) : Prop :=
  ∀ a, Rep n f a → wpOp P ops (k8 n N) i (fun a' w' => W w' ∧ wpAnyH P .any ops (k8 n N) W fuel (listed.setIfInBounds i true) a' w') a w
theorem jD {i j : Nat} (hr : Region.ready .any ops listed = [i, j]) (h1 : PK P n ops W N fuel listed i f w) (h2 : PK P n ops W N fuel listed j f w) : HL P n ops W N (fuel + 1) listed f w := by
  intro a ha
  refine wpAnyH_all hr (by simp) fun k hk => ?_
  simp at hk
  rcases hk with rfl | rfl
  · exact h1 a ha
  · exact h2 a ha
end
theorem zCp {α : Type} (g : α → Value) : ∀ l : List α, l.map g = l.flatMap (fun x => [g x])
  | [] => rfl
  | a :: l => by simp [zCp g l]
theorem yb (b : Bool) : Value.bool b = .bool (decide (b = true)) := by cases b <;> rfl
def xZ (L : List Res) : List Nat := L.flatMap (·.fp)
def xR (m : List Nat) : Nat → List Res → List Res
  | _, [] => []
  | i, r :: L => bif m.any (Nat.beq i) then xR m (i + 1) L else r :: xR m (i + 1) L
theorem mem_fps {L : List Res} {b : Nat} : b ∈ xZ L ↔ ∃ (i : Nat) (r : Res), L[i]? = some r ∧ b ∈ r.fp := by
  unfold xZ
  rw [List.mem_flatMap]
  constructor
  · rintro ⟨r, hr, hb⟩
    obtain ⟨i, hi, rfl⟩ := List.mem_iff_getElem.1 hr
    exact ⟨i, _, List.getElem?_eq_getElem hi, hb⟩
  · rintro ⟨i, r, hr, hb⟩
    exact ⟨r, List.mem_of_getElem? hr, hb⟩
theorem beq_any {m : List Nat} {i : Nat} : m.any (Nat.beq i) = true ↔ i ∈ m := by
  rw [List.any_eq_true]
  constructor
  · rintro ⟨x, hx, h⟩; rw [Nat.eq_of_beq_eq_true h]; exact hx
  · intro h; exact ⟨i, h, Nat.beq_refl i⟩
theorem zCD (m : List Nat) : ∀ (L : List Res) (i : Nat), ∃ k : Nat → Nat, (∀ a b : Nat, a < (xR m i L).length → b < (xR m i L).length → k a = k b → a = b) ∧
    ∀ (j : Nat) (r : Res), (xR m i L)[j]? = some r → L[k j]? = some r ∧ i + k j ∉ m
  | [], i => ⟨id, by simp [xR], by simp [xR]⟩
  | r :: L, i => by
    obtain ⟨k, h1, h2⟩ := zCD m L (i + 1)
    unfold xR
    cases hc : m.any (Nat.beq i) with
    | true =>
      refine ⟨fun j => k j + 1, fun a b ha hb e => h1 a b ha hb (by have e' : k a + 1 = k b + 1 := e; omega), fun j s hs => ?_⟩
      obtain ⟨h3, h4⟩ := h2 j s hs
      exact ⟨by simpa using h3, by rw [show i + (k j + 1) = i + 1 + k j by omega]; exact h4⟩
    | false =>
      refine ⟨fun j => match j with | 0 => 0 | j + 1 => k j + 1, ?_, ?_⟩
      · intro a b ha hb e
        match a, b with
        | 0, 0 => rfl
        | 0, b + 1 => simp at e
        | a + 1, 0 => simp at e
        | a + 1, b + 1 =>
          simp at ha hb e
          rw [h1 a b ha hb e]
      · intro j s hs
        match j with
        | 0 =>
          simp at hs
          refine ⟨by simpa using hs, fun hm => ?_⟩
          rw [beq_any.2 (by simpa using hm)] at hc; cases hc
        | j + 1 =>
          simp at hs
          obtain ⟨h3, h4⟩ := h2 j s hs
          exact ⟨by simpa using h3, by show i + (k j + 1) ∉ m; rw [show i + (k j + 1) = i + 1 + k j by omega]; exact h4⟩
section
variable {w0 w w' : World} {S : List Nat} {L Lin Lout : List Res}
theorem Own.give (m : List Nat) (hm : m.mapM (fun i => L[i]?) = some Lin) (hn : m.Nodup) (h : Own w0 S L w) : Own w (xZ Lin) Lin w := by
  have h' := h.sel m hm hn
  exact ⟨Keep.refl _ _, h'.apart, h'.holds, fun i r hr b hb => .inl (mem_fps.2 ⟨i, r, hr, hb⟩)⟩
theorem Own.fpsFresh (m : List Nat) (hm : m.mapM (fun i => L[i]?) = some Lin) (h : Own w0 S L w) : ∀ b ∈ xZ Lin, b ∈ S ∨ w0.heap.size ≤ b := by
  intro b hb
  obtain ⟨i, r, hr, hb⟩ := mem_fps.1 hb
  obtain ⟨k, _, hk⟩ := zB4 hm i r hr
  exact h.fresh k r hk b hb
theorem Own.frameL (m : List Nat) (hm : m.mapM (fun i => L[i]?) = some Lin) (h : Own w0 S L w) (hg : Own w (xZ Lin) Lout w') : Own w0 S (xR m 0 L ++ Lout) w' := by
  obtain ⟨k, hinj, hk⟩ := zCD m L 0
  have hk' : ∀ (j : Nat) (r : Res), (xR m 0 L)[j]? = some r → L[k j]? = some r ∧ k j ∉ m := fun j r hr => by simpa using hk j r hr
  have hfr := h.fpsFresh m hm
  -- the rest's blocks are none of those that are given
  have hold : ∀ (j : Nat) (r : Res), (xR m 0 L)[j]? = some r → ∀ b ∈ r.fp, b < w.heap.size ∧ b ∉ xZ Lin := by
    intro j r hr b hb
    obtain ⟨h1, h2⟩ := hk' j r hr
    refine ⟨h.lt h1 b hb, fun hb' => ?_⟩
    obtain ⟨i, s, hs, hb'⟩ := mem_fps.1 hb'
    obtain ⟨q, hq, hqs⟩ := zB4 hm i s hs
    exact h.apart (k j) q r s (fun e => h2 (e ▸ List.mem_of_getElem? hq)) h1 hqs b hb hb'
  have hnew : ∀ (j : Nat) (s : Res), Lout[j]? = some s → ∀ b ∈ s.fp, b ∈ xZ Lin ∨ w.heap.size ≤ b := hg.fresh
  refine ⟨⟨hg.keep.os.trans h.keep.os, hg.keep.tape.trans h.keep.tape, hg.keep.output.trans h.keep.output, Nat.le_trans h.keep.size hg.keep.size, fun b hb hS => ?_⟩, ?_, ?_, ?_⟩
  · rw [hg.keep.block b (Nat.lt_of_lt_of_le hb h.keep.size) (fun hm' => ?_)]
    · exact h.keep.block b hb hS
    · rcases hfr b hm' with h1 | h1
      · exact hS h1
      · omega
  · intro i j r s hij hr hs b hb hb'
    rw [List.getElem?_append] at hr hs
    split at hr <;> split at hs
    · rename_i hi hj
      exact h.apart (k i) (k j) r s (fun e => hij (hinj i j hi hj e)) (hk' i r hr).1 (hk' j s hs).1 b hb hb'
    · have h1 := hold _ _ hr b hb
      rcases hnew _ _ hs b hb' with h2 | h2
      · exact h1.2 h2
      · omega
    · have h1 := hold _ _ hs b hb'
      rcases hnew _ _ hr b hb with h2 | h2
      · exact h1.2 h2
      · omega
    · exact hg.apart _ _ r s (by omega) hr hs b hb hb'
  · intro i r hr
    rw [List.getElem?_append] at hr
    split at hr
    · exact r.st w w' (h.holds _ r (hk' i r hr).1) fun b hb => hg.keep.block b (hold _ _ hr b hb).1 (hold _ _ hr b hb).2
    · exact hg.holds _ r hr
  · intro i r hr b hb
    rw [List.getElem?_append] at hr
    split at hr
    · exact h.fresh _ r (hk' i r hr).1 b hb
    · rcases hnew _ _ hr b hb with h1 | h1
      · exact hfr b h1
      · have := h.keep.size; right; omega
structure Rd (w : World) (S : List Nat) (r : Res) : Prop where
  φ : r.φ w
  far : ∀ b ∈ r.fp, b ∉ S
theorem Rd.sub {r r' : Res} (h : Rd w S r) (hφ : r.φ w → r'.φ w) (hf : ∀ b ∈ r'.fp, b ∈ r.fp) : Rd w S r' := ⟨hφ h.φ, fun b hb => h.far b (hf b hb)⟩
theorem Rd.of {r : Res} (h : r.φ w) : Rd w [] r := ⟨h, by simp⟩
theorem Own.rd {r : Res} (hr : Rd w0 S r) (h : Own w0 S L w) : r.φ w := h.old r hr.φ hr.far
theorem Own.rdTo {r : Res} (hr : Rd w0 S r) (m : List Nat) (hm : m.mapM (fun i => L[i]?) = some Lin) (h : Own w0 S L w) : Rd w (xZ Lin) r := by
  refine ⟨h.old r hr.φ hr.far, fun b hb hb' => ?_⟩
  rcases h.fpsFresh m hm b hb' with h1 | h1
  · exact hr.far b hb h1
  · have := r.lt w0 hr.φ b hb; omega
theorem Own.rdRes {r : Res} (j : Nat) (hL : L[j]? = some r) (m : List Nat) (hm : m.mapM (fun i => L[i]?) = some Lin) (hj : m.any (Nat.beq j) = false) (h : Own w0 S L w) : Rd w (xZ Lin) r := by
  refine ⟨h.holds j r hL, fun b hb hb' => ?_⟩
  obtain ⟨i, s, hs, hb'⟩ := mem_fps.1 hb'
  obtain ⟨q, hq, hqs⟩ := zB4 hm i s hs
  refine h.apart j q r s (fun e => ?_) hL hqs b hb hb'
  rw [beq_any.2 (e ▸ List.mem_of_getElem? hq)] at hj; cases hj
theorem Own.rd0 {r : Res} (hr : Rd w0 S r) (h : Own w0 S L w) : Rd w [] r := ⟨h.rd hr, by simp⟩
theorem Own.rdRes0 {r : Res} (j : Nat) (hL : L[j]? = some r) (h : Own w0 S L w) : Rd w [] r := ⟨h.holds j r hL, by simp⟩
end
def kQ : Value → Nat
  | .slice (some a) _ _ => a.block
  | _ => 0
def yn : Value → Nat
  | .slice (some a) _ _ => a.off
  | _ => 0
def ju (v : Value) (l h sz : Nat) : Value := match v with
  | .slice a _ cap => zAu a cap l h cap sz
  | v => v
theorem Sl.at_ {w : World} {v : Value} {n : Nat} {cs : List Value} (h : Sl w v n cs) {i : Nat} {u : Value} (hu : cs[i]? = some u) : w.cell? ⟨kQ v, yn v + i, none⟩ = some u := by
  rcases h with ⟨a, rfl, _, rfl⟩ | ⟨b, off, cap, rfl, _, _, _, h4⟩
  · simp at hu
  · exact h4 i u hu
theorem Sl.subV {w : World} {v : Value} {n : Nat} {cs : List Value} (hs : Sl w v n cs) {l h sz : Nat} (h1 : l ≤ h) (hn : h ≤ n) (hlen : cs.length = n * sz) : Sl w (ju v l h sz) (h - l) ((cs.drop (l * sz)).take ((h - l) * sz)) := by
  obtain ⟨a, cap, rfl, hc, -, -⟩ := hs.shape
  exact hs.sub h1 (by omega) (Nat.le_refl _) hn hlen
theorem jf {w : World} {v : Value} {n : Nat} {cs : List Value} (hs : Sl w v n cs) (l h sz : Nat) : ∀ b ∈ zAq (ju v l h sz), b ∈ zAq v := by
  obtain ⟨a, cap, rfl, hc, -, -⟩ := hs.shape
  exact zHG a n cap l h cap sz (Nat.le_refl _)
theorem Rd.subV {w : World} {S : List Nat} {v : Value} {n : Nat} {cs : List Value} (hs : Rd w S (Res.sl v n cs)) {l h sz : Nat} (h1 : l ≤ h) (hn : h ≤ n) (hlen : cs.length = n * sz) : Rd w S (Res.sl (ju v l h sz) (h - l) ((cs.drop (l * sz)).take ((h - l) * sz))) :=
  hs.sub (fun h' => Sl.subV h' h1 hn hlen) (jf hs.φ l h sz)
section
variable {P : Program} {n : Nat} {ops : Array Oper} {N R : K} {X : List (Nat × K)} {f : Nat → Value} {A : World → Prop} {rest : List Oper}
variable {d : Nat} {ty : TypeId} {p : String} {af : Array Edge} {x y : Operand} {t : TypeId} {sz : Nat}
variable {w0 : World} {S : List Nat} {L : List Res} {v : Value} {len : Nat} {cs : List Value}
theorem zHc (ht : jH P t = true) (hx : ev f x = v) (hs : ∀ w, A w → Sl w v len cs) : RV P f ⟨some d, .call ⟨.builtin .len, #[x], #[t]⟩, ty, p, af, none⟩ A (.int .i64 len) := by
  intro w hw
  obtain ⟨a, cap, rfl, -⟩ := (hs w hw).shape
  exact zMv (A := A) ht hx w hw
theorem zIi {k : IntKind} {i : Int} {j : Nat} (hx : ev f x = v) (hy : ev f y = .int k i) (ht : zBh P t = some sz) (hs : ∀ w, A w → Sl w v len cs) (hi : i = j) (hj : j < len) : RV P f ⟨some d, .indexAddr t x y, ty, p, af, none⟩ A (.pointer (some ⟨kQ v, yn v + j * sz, none⟩)) := by
  intro w hw
  obtain ⟨a, cap, rfl, h1, h2, h3⟩ := (hs w hw).shape
  obtain ⟨b, off, rfl⟩ := h3 (by omega)
  exact zM7 (A := A) hx hy ht hi hj w hw
theorem zMT {l h : Nat} {lo hi : Option Operand} (ht : zBh P t = some sz) (hx : ev f x = v) (hs : ∀ w, A w → Sl w v len cs) (hl : bnd f 0 lo l) (hh : bnd f len hi h) (h1 : l ≤ h) (h2 : h ≤ len) : RV P f ⟨some d, .slice t x lo hi none, ty, p, af, none⟩ A (ju v l h sz) := by
  intro w hw
  obtain ⟨a, cap, rfl, h3, -⟩ := (hs w hw).shape
  exact zNG (A := A) ht hx hl hh h1 (by omega) w hw
theorem zLB (i : Nat) {off : Nat} {u : Value} (hx : ev f x = .pointer (some ⟨kQ v, off, none⟩)) (ho : off = yn v + i) (hs : ∀ w, A w → Sl w v len cs) (hu : cs[i]? = some u) (ht : one P t = true) : RV P f ⟨some d, .load t x, ty, p, af, none⟩ A u :=
  zMY hx ht (fun w hw => by subst ho; exact (hs w hw).at_ hu)
theorem zLa (i : Nat) {off : Nat} (us : List Value) (hx : ev f x = .pointer (some ⟨kQ v, off, none⟩)) (ho : off = yn v + i) (hs : ∀ w, A w → Sl w v len cs) (hu : ∀ k u, us[k]? = some u → cs[i + k]? = some u) (ht : zAf P t = some us.length) : RV P f ⟨some d, .load t x, ty, p, af, none⟩ A (.agg us.toArray) :=
  zKy hx ht (fun w hw k u hk => by subst ho; rw [Nat.add_assoc]; exact (hs w hw).at_ (hu k u hk))
theorem zg (m : List Nat) {L' : List Res} (hmm : m.mapM (fun i => L[i]?) = some L') (hn : m.Nodup) {id : Nat} {l : List Oper} (hm : P.follows .mixedOrders = true)
    (h : ∀ w, Own w0 S L w → Own w0 S L' w → HL P n l.toArray (Own w0 S L') N l.length (Array.replicate l.length false) f w) : C P n (.region id l.toArray true) N R X f (Own w0 S L) :=
  zL8 (Own w0 S L') hm (fun w hw => (hw.sel m hmm hn).drawn) (fun w hw => h _ hw.drawn (hw.sel m hmm hn).drawn)
theorem zDo {c a b : Operand} (hc : ev f c = .bool true) (hd : Nat.blt d n = true) (k : CL P n ops rest N (upd f d (ev f a)) A) : CL P n ops (⟨some d, .pick c a b, ty, p, af, none⟩ :: rest) N f A := zJJ hc hd k
theorem kL {c a b : Operand} (hc : ev f c = .bool false) (hd : Nat.blt d n = true) (k : CL P n ops rest N (upd f d (ev f b)) A) : CL P n ops (⟨some d, .pick c a b, ty, p, af, none⟩ :: rest) N f A := zJJ hc hd k
theorem y5 {c a b : Operand} (hc : ev f c = .bool true) : RV P f ⟨some d, .pick c a b, ty, p, af, none⟩ A (ev f a) := zIV hc
theorem yz {c a b : Operand} (hc : ev f c = .bool false) : RV P f ⟨some d, .pick c a b, ty, p, af, none⟩ A (ev f b) := zIV hc
end
theorem zEF {α : Type} {g : α → List Value} {sz : Nat} (hg : ∀ x, (g x).length = sz) {l : List α} {j : Nat} {x : α} (hj : l[j]? = some x) {i : Nat} {u : Value} (hu : (g x)[i]? = some u) : (l.flatMap g)[j * sz + i]? = some u := by
  rw [zCt hg l j i x hj (by rw [← hg x]; exact (List.getElem?_eq_some_iff.1 hu).1)]; exact hu
theorem zJV {α : Type} {g : α → List Value} {sz : Nat} (hg : ∀ x, (g x).length = sz) {l : List α} {j : Nat} {x : α} (hj : l[j]? = some x) {o : Nat} {us : List Value} (hu : ∀ k u, us[k]? = some u → (g x)[o + k]? = some u) : ∀ k u, us[k]? = some u → (l.flatMap g)[j * sz + o + k]? = some u := by
  intro k u hk
  rw [Nat.add_assoc]
  exact zEF hg hj (hu k u hk)
end Go.Sc
