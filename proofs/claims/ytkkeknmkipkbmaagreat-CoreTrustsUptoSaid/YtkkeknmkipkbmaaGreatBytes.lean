import Derived.Test.YtkkeknmkipkbmaaGreatFwB
import Derived.Test.YtkkeknmkipkbmaaGreatRows
import Derived.WalkKit
import Derived.ProofKit
import Derived.OpenShut
import Derived.ShutString
import Derived.ChangeOld
import Derived.Below
import Derived.Carry
import Derived.JoinedCond
set_option linter.unusedSimpArgs false
set_option linter.unusedVariables false
set_option linter.unusedSectionVars false
namespace Go.Proofs.YtkkeknmkipkbmaaGreat
open Go Go.Sc Go.Proofs Go.RowKit Go.ChangeShapes
theorem zBg {H : Type} : ∀ ds : List (DataW H), Rows.uptoBulkAll ds = (ds.map Rows.uptoBulk).sum
  | [] => rfl
  | d :: ds => by simp [Rows.uptoBulkAll, zBg ds]
def RdA (P : Program) (W : World) (t : TypeId) {α : Type} (cells : α → List Value) (wf : α → Prop) (size : α → Nat) : Prop :=
  ∀ (H : Type) (enc : TypeId × Value → H) (fuel : Nat) (cs : List Value) (x : DataW H × List MemPlace), DataW.trod enc P W 0 (fun _ => true) true fuel t cs = some x → ∃ a, cs = cells a ∧ wf a ∧ size a ≤ Rows.uptoBulk x.1
variable {P : Program} {W : World} {t e : TypeId} {α β : Type}
theorem RdA.map {cells : α → List Value} {wf : α → Prop} {size : α → Nat} {cells' : β → List Value} {wf' : β → Prop} {size' : β → Nat} (h : RdA P W t cells wf size) (φ : α → β)
    (h1 : ∀ a, cells a = cells' (φ a)) (h2 : ∀ a, wf a → wf' (φ a)) (h3 : ∀ a, wf a → size' (φ a) ≤ size a) : RdA P W t cells' wf' size' := by
  intro H enc fuel cs x hx
  obtain ⟨a, e1, e2, e3⟩ := h H enc fuel cs x hx
  exact ⟨φ a, by rw [e1, h1], h2 a e2, Nat.le_trans (h3 a e2) e3⟩
theorem RdA.i64 (ht : P.underlying t = some (.int .i64)) : RdA P W t (fun a : Int => [.int .i64 a]) isI (fun _ => 1) := by
  intro H enc fuel cs x hx
  obtain ⟨a, rfl, rfl, hw⟩ := DataW.trod_int ht hx
  refine ⟨a, rfl, ?_, by simp [Rows.uptoBulk]⟩
  simp [Lit.wf, IntKind.min, IntKind.max, IntKind.signed, IntKind.bits] at hw
  exact ⟨by omega, by omega⟩
theorem RdA.u64 (ht : P.underlying t = some (.int .u64)) : RdA P W t (fun n : Nat => [.int .u64 n]) isU (fun _ => 1) := by
  intro H enc fuel cs x hx
  obtain ⟨a, rfl, rfl, hw⟩ := DataW.trod_int ht hx
  simp [Lit.wf, IntKind.min, IntKind.max, IntKind.signed, IntKind.bits] at hw
  refine ⟨a.toNat, by show _ = [Value.int .u64 (a.toNat : Int)]; rw [Int.toNat_of_nonneg (by omega)], ?_, by simp [Rows.uptoBulk]⟩
  unfold isU
  omega
theorem RdA.bool (ht : P.underlying t = some .bool) : RdA P W t (fun b : Bool => [.bool b]) (fun _ => True) (fun _ => 1) := by
  intro H enc fuel cs x hx
  obtain ⟨a, rfl, rfl⟩ := DataW.trod_bool ht hx
  exact ⟨a, rfl, trivial, by simp [Rows.uptoBulk]⟩
theorem cells?_spec {w : World} {a : Addr} : ∀ {n : Nat} {cs : List Value}, w.cells? 0 a n = some cs → cs.length = n ∧ ∀ i u, cs[i]? = some u → w.cell? (a.add i) = some u := by
  intro n cs h
  unfold World.cells? at h
  rw [if_pos (Nat.zero_le _)] at h
  have hl : cs.length = n := by simpa using mapM_some_length h
  refine ⟨hl, fun i u hu => ?_⟩
  have hi : i < n := by rw [← hl]; exact (List.getElem?_eq_some_iff.1 hu).1
  have := mapM_some_get h i i (by simp [hi])
  rw [this, hu]
theorem RdA.slice {cells : α → List Value} {wf : α → Prop} {size : α → Nat} {sz : Nat} (ht : P.underlying t = some (.slice e)) (hsz : P.cellsOf e = sz) (hpos : 0 < sz) (hc : ∀ a, (cells a).length = sz) (he : RdA P W e cells wf size) :
    RdA P W t (fun p : Value × List α => [p.1]) (fun p => Sl W p.1 p.2.length (p.2.flatMap cells) ∧ ∀ a ∈ p.2, wf a) (fun p => (p.2.map size).sum + 1) := by
  intro H enc fuel cs x hx
  rcases DataW.trod_slice ht hx with ⟨rfl, rfl⟩ | ⟨a, len, cap, elems, rest, n, rfl, rfl, rfl, hb, hl, hm, hlen, hel, hsp, hns⟩
  · exact ⟨(.slice none 0 0, []), rfl, ⟨.inl ⟨none, rfl, rfl, rfl⟩, by simp⟩, by simp [Rows.uptoBulk]⟩
  · -- the elements, each one read
    have each : ∀ i, i < len → ∃ (y : DataW H × List MemPlace) (z : α), elems[i]? = some y ∧ wf z ∧ size z ≤ Rows.uptoBulk y.1 ∧ ∀ j u, (cells z)[j]? = some u → W.cell? ((a.add (i * sz)).add j) = some u := by
      intro i hi
      have h := hel i hi
      obtain ⟨y, hy⟩ : ∃ y, elems[i]? = some y := ⟨_, List.getElem?_eq_getElem (by omega)⟩
      rw [hy, hsz, Option.bind_eq_some_iff] at h
      obtain ⟨cs', hcs, hr⟩ := h
      obtain ⟨z, rfl, hz1, hz2⟩ := he H enc n cs' y hr
      exact ⟨y, z, hy, hz1, hz2, (cells?_spec hcs).2⟩
    have all : ∀ k, k ≤ len → ∃ zs : List α, zs.length = k ∧ (∀ z ∈ zs, wf z) ∧ (zs.map size).sum ≤ ((elems.take k).map fun y => Rows.uptoBulk y.1).sum ∧
        ∀ i z, zs[i]? = some z → ∀ j u, (cells z)[j]? = some u → W.cell? ((a.add (i * sz)).add j) = some u := by
      intro k
      induction k with
      | zero => intro _; exact ⟨[], rfl, by simp, by simp, by simp⟩
      | succ k ih =>
        intro hk
        obtain ⟨zs, h1, h2, h3, h4⟩ := ih (by omega)
        obtain ⟨y, z, hy, hz1, hz2, hz3⟩ := each k (by omega)
        refine ⟨zs ++ [z], by simp [h1], ?_, ?_, ?_⟩
        · intro z' hz'
          rcases List.mem_append.1 hz' with h | h
          · exact h2 z' h
          · simp at h; subst h; exact hz1
        · rw [List.take_add_one, hy]
          simp only [List.map_append, List.sum_append, Option.toList_some, List.map_cons, List.map_nil, List.sum_cons, List.sum_nil]
          omega
        · intro i z' hi
          rw [List.getElem?_append] at hi
          split at hi
          · exact h4 i z' hi
          · rename_i hnl
            have : i - zs.length = 0 := by
              cases hq : i - zs.length with
              | zero => rfl
              | succ q => rw [hq] at hi; simp at hi
            rw [this] at hi; simp at hi; subst hi
            have : i = k := by omega
            subst this; exact hz3
    obtain ⟨zs, h1, h2, h3, h4⟩ := all len (Nat.le_refl _)
    rw [List.take_of_length_le (by omega)] at h3
    refine ⟨(.slice (some a) len cap, zs), rfl, ⟨?_, h2⟩, ?_⟩
    · by_cases hc0 : cap = 0
      · subst hc0
        have h0 : len = 0 := by omega
        subst h0
        have : zs = [] := List.eq_nil_of_length_eq_zero h1
        subst this
        exact .inl ⟨_, rfl, rfl, rfl⟩
      · -- the row is there: its first place reads
        have first : ∃ u, W.cell? a = some u := by
          have key : ∀ i, i < cap → ∃ cs', W.cells? 0 (a.add (i * sz)) sz = some cs' := by
            intro i hi
            by_cases hil : i < len
            · have h := hel i hil
              rw [List.getElem?_eq_getElem (by omega), hsz, Option.bind_eq_some_iff] at h
              exact ⟨_, h.choose_spec.1⟩
            · obtain ⟨hr1, hr2⟩ := hsp rfl
              have h := hr2 (i - len) (by omega)
              rw [List.getElem?_eq_getElem (by omega), hsz, Option.bind_eq_some_iff, show len + (i - len) = i by omega] at h
              exact ⟨_, h.choose_spec.1⟩
          obtain ⟨cs', hcs⟩ := key 0 (by omega)
          obtain ⟨q1, q2⟩ := cells?_spec hcs
          refine ⟨cs'[0]'(by omega), ?_⟩
          have := q2 0 _ (List.getElem?_eq_getElem (by omega))
          simpa [Addr.add] using this
        obtain ⟨u, hu⟩ := first
        obtain ⟨b, off, spot⟩ := a
        have hspot : spot = none := World.cell?_spot hu
        subst hspot
        have hbl : b < W.heap.size := by
          have hcs : W.cells? 0 ⟨b, off, none⟩ 1 = some [u] := Go.ChangeShapes.cells?_one (Nat.zero_le _) hu
          exact World.cells?_block hcs (by omega)
        show Sl W (.slice (some ⟨b, off, none⟩) len cap) zs.length (zs.flatMap cells)
        rw [h1]
        refine .inr ⟨b, off, cap, rfl, ⟨hl, by omega⟩, hm, hbl, ?_⟩
        intro q u' hq
        have hlt : q < (zs.flatMap cells).length := (List.getElem?_eq_some_iff.1 hq).1
        rw [kr hc] at hlt
        have hq1 : q / sz < zs.length := Nat.div_lt_of_lt_mul (by rw [Nat.mul_comm]; exact hlt)
        have hq2 : q % sz < sz := Nat.mod_lt _ hpos
        obtain ⟨z, hz⟩ : ∃ z, zs[q / sz]? = some z := ⟨_, List.getElem?_eq_getElem hq1⟩
        have hdm : q / sz * sz + q % sz = q := by rw [Nat.mul_comm]; exact Nat.div_add_mod q sz
        have := zBC hc zs (q / sz) (q % sz) z hz hq2
        rw [hdm, hq] at this
        have h5 := h4 _ z hz _ u' this.symm
        have e5 : ((⟨b, off, none⟩ : Addr).add (q / sz * sz)).add (q % sz) = ⟨b, off + q, none⟩ := by
          simp only [jE]; rw [Nat.add_assoc, hdm]
        rw [e5] at h5
        exact h5
    · simp only [Rows.uptoBulk, zBg, List.map_map]
      have : (elems.map (Rows.uptoBulk ∘ fun x => x.1)).sum = (elems.map fun y => Rows.uptoBulk y.1).sum := rfl
      omega
def RdF (P : Program) (W : World) (tot : Nat) (fs : List Field) (off : Nat) {α : Type} (cells : α → List Value) (wf : α → Prop) (size : α → Nat) : Prop :=
  ∀ (H : Type) (enc : TypeId × Value → H) (n : Nat) (cs : List Value) (xs : List (DataW H × List MemPlace)), cs.length = tot → xs.length = fs.length →
    (∀ (i : Nat) (f : Field), fs[i]? = some f → DataW.trod enc P W 0 (fun _ => true) true n f.type ((cs.drop f.offset).take (P.cellsOf f.type)) = xs[i]?) →
    ∃ a, cs.drop off = cells a ∧ wf a ∧ size a ≤ (xs.map fun y => Rows.uptoBulk y.1).sum
theorem RdF.nil {tot off : Nat} (h : off = tot) : RdF P W tot [] off (fun _ : Unit => []) (fun _ => True) (fun _ => 0) := by
  subst h
  intro H enc n cs xs hl hx _
  exact ⟨(), by rw [← hl]; simp, trivial, Nat.zero_le _⟩
theorem RdF.cons {tot sz : Nat} {f : Field} {fs : List Field} {off : Nat} {ca : α → List Value} {wa : α → Prop} {sa : α → Nat} {cb : β → List Value} {wb : β → Prop} {sb : β → Nat}
    (ho : f.offset = off) (hs : P.cellsOf f.type = sz) (ha : RdA P W f.type ca wa sa) (hb : RdF P W tot fs (off + sz) cb wb sb) :
    RdF P W tot (f :: fs) off (fun p : α × β => ca p.1 ++ cb p.2) (fun p => wa p.1 ∧ wb p.2) (fun p => sa p.1 + sb p.2) := by
  intro H enc n cs xs hl hx hall
  cases xs with
  | nil => simp at hx
  | cons x xs =>
    obtain ⟨a, e1, e2, e3⟩ := ha H enc n _ x (by have := hall 0 f rfl; simpa using this)
    obtain ⟨b, d1, d2, d3⟩ := hb H enc n cs xs hl (by simpa using hx) (fun i g hg => by have := hall (i + 1) g (by simpa using hg); simpa using this)
    refine ⟨(a, b), ?_, ⟨e2, d2⟩, ?_⟩
    · rw [ho, hs] at e1
      show cs.drop off = ca a ++ cb b
      rw [← e1, ← d1, ← List.drop_drop, List.take_append_drop]
    · simp only [List.map_cons, List.sum_cons]
      show sa a + sb b ≤ _
      omega
theorem zCC {v u : Value} (h : v.cells.toList = [u]) (hn : ∀ cs, v ≠ .agg cs) : v = u := by
  cases v <;> simp_all [Value.cells]
theorem zEo {r : Reach} {b0 : Nat} {v u : Value} {k : IntKind} (ht : P.underlying t = some (.int k)) (h : Value.okWide P W r b0 t v) (hc : v.cells.toList = [u]) : v = u := by
  obtain ⟨a, rfl⟩ := Go.WideShapes.okWide_int ht h
  exact zCC hc (by simp)
theorem zG5 {r : Reach} {b0 : Nat} {v u : Value} (ht : P.underlying t = some .bool) (h : Value.okWide P W r b0 t v) (hc : v.cells.toList = [u]) : v = u := by
  obtain ⟨a, rfl⟩ := Go.WideShapes.okWide_bool ht h
  exact zCC hc (by simp)
theorem jh {H : Type} {enc : TypeId × Value → H} (hl : laidOutB P = true) {W' : World} (hb : Below W.heap.size W W') : ∀ {ts : List TypeId} {vs : List Value} {ds : List (DataW H)} {ps : List MemPlace},
    ts.all (fun t => P.readableRec t && decide (t < P.types.size)) = true → DataW.TrodAll enc P W 0 (fun _ => true) true ts vs ds ps → (∀ x ∈ ps, x.block < W.heap.size) →
    DataW.TrodAll enc P W' 0 (fun b => decide (b < W.heap.size)) true ts vs ds ps
  | [], [], [], _, _, h, _ => h
  | [], _ :: _, _, _, _, h, _ => h.elim
  | [], [], _ :: _, _, _, h, _ => h.elim
  | _ :: _, [], _, _, _, h, _ => h.elim
  | _ :: _, _ :: _, [], _, _, h, _ => h.elim
  | t :: ts, v :: vs, d :: ds, ps, hr, h, hlt => by
    obtain ⟨p, q, h1, h2, rfl⟩ := h
    simp only [List.all_cons, Bool.and_eq_true, decide_eq_true_eq] at hr
    exact ⟨p, q, Below.trod hl hr.1.1 hr.1.2 h1 hb (fun x hx => hlt x (by simp [hx])), jh hl hb hr.2 h2 (fun x hx => hlt x (by simp [hx])), rfl⟩
theorem zAp {H : Type} {enc : TypeId × Value → H} {base : Nat} {sp : Nat → Bool} {held : Bool} : ∀ {ts : List TypeId} {vs : List Value} {ds : List (DataW H)} {ps : List MemPlace}, DataW.TrodAll enc P W base sp held ts vs ds ps → ds.length = ts.length
  | [], [], [], _, _ => rfl
  | [], _ :: _, _, _, h => h.elim
  | [], [], _ :: _, _, h => h.elim
  | _ :: _, [], _, _, h => h.elim
  | _ :: _, _ :: _, [], _, h => h.elim
  | t :: ts, v :: vs, d :: ds, ps, h => by
    obtain ⟨p, q, h1, h2, rfl⟩ := h
    simp [zAp h2]
theorem zHo {H : Type} {enc : TypeId × Value → H} {f : Func} {s : ChangeSpec} {W' : World} {args : Array Value} {ds gs : List (DataW H)} {before : List MemPlace} {tb : TypeId} (hl : laidOutB P = true) (hs : s.vars = [])
    (hfn : ∀ ds : List (DataW H), ds.length = f.params.toList.length → s.fn H ds = { results := [.lit (.bool true)], args := ds }) (hres : f.resultTypes = #[tb]) (htb : P.underlying tb = some .bool)
    (hts : f.params.toList.all (fun t => P.readableRec t && decide (t < P.types.size)) = true)
    (hW : DataW.Whole enc P f.params.toList s.vars false W args.toList ds gs before) (hb : Below W.heap.size W W') : s.post enc P f false true false false W args (.bool true) W' := by
  have hlt := hW.lt
  have hW' := hW
  obtain ⟨p, q, hA, hV, rfl, hfz, hnd⟩ := hW
  rw [hs] at hV
  obtain ⟨rfl, rfl⟩ := trodVars_none hV
  have hfn' := hfn ds (zAp hA)
  rw [List.append_nil] at hlt hW'
  refine ⟨ds, [], p, [], p, [], hW', ?_, ?_, ?_, hb.frame _, fun h => by cases h⟩
  · rw [List.append_nil, hfn', hres]
    exact trodAll_mk1 (shut_bool htb _)
  · rw [List.append_nil, hfn']
    exact jh hl hb hts hA hlt
  · rw [List.append_nil, hfn', hs]
    rfl
theorem Own.below {w w' : World} {L : List Res} (h : Own w [] L w') : Below w.heap.size w w' :=
  ⟨h.keep.os, h.keep.tape, h.keep.output, h.keep.size, fun k hk => h.keep.block k hk (by simp)⟩
end Go.Proofs.YtkkeknmkipkbmaaGreat
set_option linter.unusedVariables false
namespace Go.Sc
def z9 (n : Nat) : Nat := if n = 0 then 0 else n.log2 + 1
theorem zB6 (n : Nat) : n < 2 ^ z9 n := by
  unfold z9
  split
  · subst n; decide
  · exact Nat.lt_log2_self
theorem zAb {n : Nat} (h : 0 < n) : 2 ^ (z9 n - 1) ≤ n := by
  unfold z9
  rw [if_neg (by omega)]
  exact Nat.log2_self_le (by omega)
theorem zCz {n L : Nat} (h0 : 0 < n) (h1 : n < 2 ^ (L + 1)) (h2 : 2 ^ L ≤ n) : z9 n = L + 1 := by
  have a1 := zB6 n
  have a2 := zAb h0
  have b1 : L < z9 n := (Nat.pow_lt_pow_iff_right (by omega)).1 (Nat.lt_of_le_of_lt h2 a1)
  have b2 : z9 n - 1 < L + 1 := (Nat.pow_lt_pow_iff_right (by omega)).1 (Nat.lt_of_le_of_lt a2 h1)
  omega
theorem zDs {n : Nat} (h : 0 < n) : 0 < z9 n := by unfold z9; rw [if_neg (by omega)]; omega
theorem k8 {n k : Nat} (h : 2 ^ k ≤ n) : z9 n = z9 (n / 2 ^ k) + k := by
  have hp : 0 < 2 ^ k := Nat.two_pow_pos k
  have hm : 0 < n / 2 ^ k := Nat.div_pos h hp
  have a1 := zB6 (n / 2 ^ k)
  have a2 := zAb hm
  have a3 := zDs hm
  have e : z9 n = (z9 (n / 2 ^ k) - 1 + k) + 1 := by
    refine zCz (by omega) ?_ ?_
    · have : n < 2 ^ z9 (n / 2 ^ k) * 2 ^ k := (Nat.div_lt_iff_lt_mul hp).1 a1
      rw [← Nat.pow_add] at this
      rw [show z9 (n / 2 ^ k) - 1 + k + 1 = z9 (n / 2 ^ k) + k by omega]
      exact this
    · rw [Nat.pow_add]
      exact (Nat.le_div_iff_mul_le hp).1 a2
  omega
theorem kC {n k : Nat} (h : n < 2 ^ k) : z9 n ≤ k := by
  by_cases h0 : n = 0
  · subst h0; simp [z9]
  · have := zAb (Nat.pos_of_ne_zero h0)
    have := (Nat.pow_lt_pow_iff_right (a := 2) (by omega)).1 (Nat.lt_of_le_of_lt this h)
    omega
def lenTabL : List UInt8 := 0 :: 1 :: List.replicate 2 2 ++ List.replicate 4 3 ++ List.replicate 8 4 ++ List.replicate 16 5 ++ List.replicate 32 6 ++ List.replicate 64 7 ++ List.replicate 128 8
theorem zFW : ∀ m : Fin 256, (lenTabL[m.val]?.map UInt8.toNat) = some (z9 m.val) := by decide +kernel
def yr (n : Nat) : Nat := (z9 n + 7) / 8
theorem zBe {n : Nat} (h : n < 18446744073709551616) : yr n ≤ 8 := by
  have := kC (n := n) (k := 64) h
  unfold yr; omega
def be (n : Nat) : Nat → List UInt8
  | 0 => []
  | k + 1 => UInt8.ofNat (n / 2 ^ (8 * k)) :: be n k
theorem zAR (n : Nat) : ∀ k, (be n k).length = k
  | 0 => rfl
  | k + 1 => by simp [be, zAR n k]
def num (n : Nat) : List UInt8 := UInt8.ofNat (yr n) :: be n (yr n)
theorem zDp (n : Nat) : (num n).length = yr n + 1 := by simp [num, zAR]
theorem zHa {n : Nat} (h : n < 18446744073709551616) : (num n).length ≤ 9 := by rw [zDp]; have := zBe h; omega
def dat (d : List UInt8) : List UInt8 := num d.length ++ d
theorem zBJ (m : Nat) : vb (UInt8.ofNat m) = .int .u8 ((m % 256 : Nat) : Int) := by simp [vb]
end Go.Sc
