import Derived.Test.YtkkeknmkipkbmaaGreatCodec
import Derived.Test.YtkkeknmkipkbmaaGreatFwB
set_option linter.unusedSectionVars false
set_option linter.unusedSimpArgs false
set_option linter.unusedVariables false
set_option maxRecDepth 10000
namespace Go.Proofs.YtkkeknmkipkbmaaGreat
open Go Go.Sc Go.Proofs
abbrev yW : Nat := 188
def vu (n : Nat) : Value := .int .u64 n
def zp (ns : List Nat) : List UInt8 := ns.flatMap num
theorem yI {ns : List Nat} (h : ∀ n ∈ ns, n < 18446744073709551616) : (zp ns).length ≤ 9 * ns.length := by
  induction ns with
  | nil => simp [zp]
  | cons n ns ih =>
    have h1 := zHa (h n (by simp))
    have h2 := ih (fun m hm => h m (by simp [hm]))
    simp only [zp, List.flatMap_cons, List.length_append, List.length_cons] at h2 ⊢
    omega
end Go.Proofs.YtkkeknmkipkbmaaGreat
set_option linter.unusedVariables false
namespace Go.Sc
section
variable {P : Program} {n : Nat} {ops : Array Oper} {N R : K} {X : List (Nat × K)} {f : Nat → Value} {W : World → Prop} {w w0 : World} {S : List Nat} {L : List Res}
variable {d : Nat} {ty t e : TypeId} {p : String} {af : Array Edge} {fuel sz by' : Nat} {listed : Array Bool} {x y : Operand}
def PK (P : Program) (n : Nat) (ops : Array Oper) (W : World → Prop) (N : K) (fuel : Nat) (listed : Array Bool) (i : Nat) (f : Nat → Value) (w : World) : Prop :=
  ∀ a, Rep n f a → wpOp P ops (xf n N) i (fun a' w' => W w' ∧ wpAnyH P .any ops (xf n N) W fuel (listed.setIfInBounds i true) a' w') a w
theorem zIe {i j : Nat} (hr : Region.ready .any ops listed = [i, j]) (h1 : PK P n ops W N fuel listed i f w) (h2 : PK P n ops W N fuel listed j f w) : HL P n ops W N (fuel + 1) listed f w := by
  intro a ha
  refine wpAnyH_all hr (by simp) fun k hk => ?_
  simp at hk
  rcases hk with rfl | rfl
  · exact h1 a ha
  · exact h2 a ha
end
theorem zDc {α : Type} (g : α → Value) : ∀ l : List α, l.map g = l.flatMap (fun x => [g x])
  | [] => rfl
  | a :: l => by simp [zDc g l]
theorem xC (b : Bool) : Value.bool b = .bool (decide (b = true)) := by cases b <;> rfl
def y8 (L : List Res) : List Nat := L.flatMap (·.fp)
def yj (m : List Nat) : Nat → List Res → List Res
  | _, [] => []
  | i, r :: L => bif m.any (Nat.beq i) then yj m (i + 1) L else r :: yj m (i + 1) L
theorem mem_fps {L : List Res} {b : Nat} : b ∈ y8 L ↔ ∃ (i : Nat) (r : Res), L[i]? = some r ∧ b ∈ r.fp := by
  unfold y8
  rw [List.mem_flatMap]
  constructor
  · rintro ⟨r, hr, hb⟩
    obtain ⟨i, hi, rfl⟩ := List.mem_iff_getElem.1 hr
    exact ⟨i, _, List.getElem?_eq_getElem hi, hb⟩
  · rintro ⟨i, r, hr, hb⟩
    exact ⟨r, List.mem_of_getElem? hr, hb⟩
theorem beq_any {m : List Nat} {i : Nat} : m.any (Nat.beq i) = true ↔ i ∈ m := by
  rw [List.any_eq_true]
  constructor
  · rintro ⟨x, hx, h⟩; rw [Nat.eq_of_beq_eq_true h]; exact hx
  · intro h; exact ⟨i, h, Nat.beq_refl i⟩
theorem zBk (m : List Nat) : ∀ (L : List Res) (i : Nat), ∃ k : Nat → Nat, (∀ a b : Nat, a < (yj m i L).length → b < (yj m i L).length → k a = k b → a = b) ∧
    ∀ (j : Nat) (r : Res), (yj m i L)[j]? = some r → L[k j]? = some r ∧ i + k j ∉ m
  | [], i => ⟨id, by simp [yj], by simp [yj]⟩
  | r :: L, i => by
    obtain ⟨k, h1, h2⟩ := zBk m L (i + 1)
    unfold yj
    cases hc : m.any (Nat.beq i) with
    | true =>
      refine ⟨fun j => k j + 1, fun a b ha hb e => h1 a b ha hb (by have e' : k a + 1 = k b + 1 := e; omega), fun j s hs => ?_⟩
      obtain ⟨h3, h4⟩ := h2 j s hs
      exact ⟨by simpa using h3, by rw [show i + (k j + 1) = i + 1 + k j by omega]; exact h4⟩
    | false =>
      refine ⟨fun j => match j with | 0 => 0 | j + 1 => k j + 1, ?_, ?_⟩
      · intro a b ha hb e
        match a, b with
        | 0, 0 => rfl
        | 0, b + 1 => simp at e
        | a + 1, 0 => simp at e
        | a + 1, b + 1 =>
          simp at ha hb e
          rw [h1 a b ha hb e]
      · intro j s hs
        match j with
        | 0 =>
          simp at hs
          refine ⟨by simpa using hs, fun hm => ?_⟩
          rw [beq_any.2 (by simpa using hm)] at hc; cases hc
        | j + 1 =>
          simp at hs
          obtain ⟨h3, h4⟩ := h2 j s hs
          exact ⟨by simpa using h3, by show i + (k j + 1) ∉ m; rw [show i + (k j + 1) = i + 1 + k j by omega]; exact h4⟩
section
variable {w0 w w' : World} {S : List Nat} {L Lin Lout : List Res}
theorem Own.give (m : List Nat) (hm : m.mapM (fun i => L[i]?) = some Lin) (hn : m.Nodup) (h : Own w0 S L w) : Own w (y8 Lin) Lin w := by
  have h' := h.sel m hm hn
  exact ⟨Keep.refl _ _, h'.apart, h'.holds, fun i r hr b hb => .inl (mem_fps.2 ⟨i, r, hr, hb⟩)⟩
theorem Own.fpsFresh (m : List Nat) (hm : m.mapM (fun i => L[i]?) = some Lin) (h : Own w0 S L w) : ∀ b ∈ y8 Lin, b ∈ S ∨ w0.heap.size ≤ b := by
  intro b hb
  obtain ⟨i, r, hr, hb⟩ := mem_fps.1 hb
  obtain ⟨k, _, hk⟩ := zAx hm i r hr
  exact h.fresh k r hk b hb
theorem Own.frameL (m : List Nat) (hm : m.mapM (fun i => L[i]?) = some Lin) (h : Own w0 S L w) (hg : Own w (y8 Lin) Lout w') : Own w0 S (yj m 0 L ++ Lout) w' := by
  obtain ⟨k, hinj, hk⟩ := zBk m L 0
  have hk' : ∀ (j : Nat) (r : Res), (yj m 0 L)[j]? = some r → L[k j]? = some r ∧ k j ∉ m := fun j r hr => by simpa using hk j r hr
  have hfr := h.fpsFresh m hm
  -- the rest's blocks are none of those that are given
  have hold : ∀ (j : Nat) (r : Res), (yj m 0 L)[j]? = some r → ∀ b ∈ r.fp, b < w.heap.size ∧ b ∉ y8 Lin := by
    intro j r hr b hb
    obtain ⟨h1, h2⟩ := hk' j r hr
    refine ⟨h.lt h1 b hb, fun hb' => ?_⟩
    obtain ⟨i, s, hs, hb'⟩ := mem_fps.1 hb'
    obtain ⟨q, hq, hqs⟩ := zAx hm i s hs
    exact h.apart (k j) q r s (fun e => h2 (e ▸ List.mem_of_getElem? hq)) h1 hqs b hb hb'
  have hnew : ∀ (j : Nat) (s : Res), Lout[j]? = some s → ∀ b ∈ s.fp, b ∈ y8 Lin ∨ w.heap.size ≤ b := hg.fresh
  refine ⟨⟨hg.keep.os.trans h.keep.os, hg.keep.tape.trans h.keep.tape, hg.keep.output.trans h.keep.output, Nat.le_trans h.keep.size hg.keep.size, fun b hb hS => ?_⟩, ?_, ?_, ?_⟩
  · rw [hg.keep.block b (Nat.lt_of_lt_of_le hb h.keep.size) (fun hm' => ?_)]
    · exact h.keep.block b hb hS
    · rcases hfr b hm' with h1 | h1
      · exact hS h1
      · omega
  · intro i j r s hij hr hs b hb hb'
    rw [List.getElem?_append] at hr hs
    split at hr <;> split at hs
    · rename_i hi hj
      exact h.apart (k i) (k j) r s (fun e => hij (hinj i j hi hj e)) (hk' i r hr).1 (hk' j s hs).1 b hb hb'
    · have h1 := hold _ _ hr b hb
      rcases hnew _ _ hs b hb' with h2 | h2
      · exact h1.2 h2
      · omega
    · have h1 := hold _ _ hs b hb'
      rcases hnew _ _ hr b hb with h2 | h2
      · exact h1.2 h2
      · omega
    · exact hg.apart _ _ r s (by omega) hr hs b hb hb'
  · intro i r hr
    rw [List.getElem?_append] at hr
    split at hr
    · exact r.st w w' (h.holds _ r (hk' i r hr).1) fun b hb => hg.keep.block b (hold _ _ hr b hb).1 (hold _ _ hr b hb).2
    · exact hg.holds _ r hr
  · intro i r hr b hb
    rw [List.getElem?_append] at hr
    split at hr
    · exact h.fresh _ r (hk' i r hr).1 b hb
    · rcases hnew _ _ hr b hb with h1 | h1
      · exact hfr b h1
      · have := h.keep.size; right; omega
structure Rd (w : World) (S : List Nat) (r : Res) : Prop where
  φ : r.φ w
  far : ∀ b ∈ r.fp, b ∉ S
theorem Rd.sub {r r' : Res} (h : Rd w S r) (hφ : r.φ w → r'.φ w) (hf : ∀ b ∈ r'.fp, b ∈ r.fp) : Rd w S r' := ⟨hφ h.φ, fun b hb => h.far b (hf b hb)⟩
theorem Rd.of {r : Res} (h : r.φ w) : Rd w [] r := ⟨h, by simp⟩
theorem Own.rd {r : Res} (hr : Rd w0 S r) (h : Own w0 S L w) : r.φ w := h.old r hr.φ hr.far
theorem Own.rdTo {r : Res} (hr : Rd w0 S r) (m : List Nat) (hm : m.mapM (fun i => L[i]?) = some Lin) (h : Own w0 S L w) : Rd w (y8 Lin) r := by
  refine ⟨h.old r hr.φ hr.far, fun b hb hb' => ?_⟩
  rcases h.fpsFresh m hm b hb' with h1 | h1
  · exact hr.far b hb h1
  · have := r.lt w0 hr.φ b hb; omega
theorem Own.rdRes {r : Res} (j : Nat) (hL : L[j]? = some r) (m : List Nat) (hm : m.mapM (fun i => L[i]?) = some Lin) (hj : m.any (Nat.beq j) = false) (h : Own w0 S L w) : Rd w (y8 Lin) r := by
  refine ⟨h.holds j r hL, fun b hb hb' => ?_⟩
  obtain ⟨i, s, hs, hb'⟩ := mem_fps.1 hb'
  obtain ⟨q, hq, hqs⟩ := zAx hm i s hs
  refine h.apart j q r s (fun e => ?_) hL hqs b hb hb'
  rw [beq_any.2 (e ▸ List.mem_of_getElem? hq)] at hj; cases hj
theorem Own.rd0 {r : Res} (hr : Rd w0 S r) (h : Own w0 S L w) : Rd w [] r := ⟨h.rd hr, by simp⟩
theorem Own.rdRes0 {r : Res} (j : Nat) (hL : L[j]? = some r) (h : Own w0 S L w) : Rd w [] r := ⟨h.holds j r hL, by simp⟩
end
def x5 : Value → Nat
  | .slice (some a) _ _ => a.block
  | _ => 0
def xF : Value → Nat
  | .slice (some a) _ _ => a.off
  | _ => 0
def xi (v : Value) (l h sz : Nat) : Value := match v with
  | .slice a _ cap => jK a cap l h cap sz
  | v => v
theorem Sl.at_ {w : World} {v : Value} {n : Nat} {cs : List Value} (h : Sl w v n cs) {i : Nat} {u : Value} (hu : cs[i]? = some u) : w.cell? ⟨x5 v, xF v + i, none⟩ = some u := by
  rcases h with ⟨a, rfl, _, rfl⟩ | ⟨b, off, cap, rfl, _, _, _, h4⟩
  · simp at hu
  · exact h4 i u hu
theorem Sl.subV {w : World} {v : Value} {n : Nat} {cs : List Value} (hs : Sl w v n cs) {l h sz : Nat} (h1 : l ≤ h) (hn : h ≤ n) (hlen : cs.length = n * sz) : Sl w (xi v l h sz) (h - l) ((cs.drop (l * sz)).take ((h - l) * sz)) := by
  obtain ⟨a, cap, rfl, hc, -, -⟩ := hs.shape
  exact hs.sub h1 (by omega) (Nat.le_refl _) hn hlen
theorem ki {w : World} {v : Value} {n : Nat} {cs : List Value} (hs : Sl w v n cs) (l h sz : Nat) : ∀ b ∈ jn (xi v l h sz), b ∈ jn v := by
  obtain ⟨a, cap, rfl, hc, -, -⟩ := hs.shape
  exact zF7 a n cap l h cap sz (Nat.le_refl _)
theorem Rd.subV {w : World} {S : List Nat} {v : Value} {n : Nat} {cs : List Value} (hs : Rd w S (Res.sl v n cs)) {l h sz : Nat} (h1 : l ≤ h) (hn : h ≤ n) (hlen : cs.length = n * sz) : Rd w S (Res.sl (xi v l h sz) (h - l) ((cs.drop (l * sz)).take ((h - l) * sz))) :=
  hs.sub (fun h' => Sl.subV h' h1 hn hlen) (ki hs.φ l h sz)
section
variable {P : Program} {n : Nat} {ops : Array Oper} {N R : K} {X : List (Nat × K)} {f : Nat → Value} {A : World → Prop} {rest : List Oper}
variable {d : Nat} {ty : TypeId} {p : String} {af : Array Edge} {x y : Operand} {t : TypeId} {sz : Nat}
variable {w0 : World} {S : List Nat} {L : List Res} {v : Value} {len : Nat} {cs : List Value}
theorem zHf (ht : x1 P t = true) (hx : ev f x = v) (hs : ∀ w, A w → Sl w v len cs) : RV P f ⟨some d, .call ⟨.builtin .len, #[x], #[t]⟩, ty, p, af, none⟩ A (.int .i64 len) := by
  intro w hw
  obtain ⟨a, cap, rfl, -⟩ := (hs w hw).shape
  exact zKN (A := A) ht hx w hw
theorem zHV {k : IntKind} {i : Int} {j : Nat} (hx : ev f x = v) (hy : ev f y = .int k i) (ht : zAC P t = some sz) (hs : ∀ w, A w → Sl w v len cs) (hi : i = j) (hj : j < len) : RV P f ⟨some d, .indexAddr t x y, ty, p, af, none⟩ A (.pointer (some ⟨x5 v, xF v + j * sz, none⟩)) := by
  intro w hw
  obtain ⟨a, cap, rfl, h1, h2, h3⟩ := (hs w hw).shape
  obtain ⟨b, off, rfl⟩ := h3 (by omega)
  exact zKV (A := A) hx hy ht hi hj w hw
theorem zGc {l h : Nat} {lo hi : Option Operand} (ht : zAC P t = some sz) (hx : ev f x = v) (hs : ∀ w, A w → Sl w v len cs) (hl : bnd f 0 lo l) (hh : bnd f len hi h) (h1 : l ≤ h) (h2 : h ≤ len) : RV P f ⟨some d, .slice t x lo hi none, ty, p, af, none⟩ A (xi v l h sz) := by
  intro w hw
  obtain ⟨a, cap, rfl, h3, -⟩ := (hs w hw).shape
  exact zK1 (A := A) ht hx hl hh h1 (by omega) w hw
theorem zJv {l h : Nat} {lo hi : Option Operand} (ht : zAC P t = some sz) (hx : ev f x = v) (hs : ∀ w, A w → Sl w v len cs) (hl : bnd f 0 lo l) (hh : bnd f len hi h) (h1 : l ≤ h) (h2 : h ≤ len) (hd : Nat.blt d n = true)
    (k : CL P n ops rest N (upd f d (xi v l h sz)) A) : CL P n ops (⟨some d, .slice t x lo hi none, ty, p, af, none⟩ :: rest) N f A := yN hd (zGc ht hx hs hl hh h1 h2) k
theorem zIq (i : Nat) {off : Nat} {u : Value} (hx : ev f x = .pointer (some ⟨x5 v, off, none⟩)) (ho : off = xF v + i) (hs : ∀ w, A w → Sl w v len cs) (hu : cs[i]? = some u) (ht : one P t = true) : RV P f ⟨some d, .load t x, ty, p, af, none⟩ A u :=
  zFH hx ht (fun w hw => by subst ho; exact (hs w hw).at_ hu)
theorem zJA (i : Nat) {off : Nat} (us : List Value) (hx : ev f x = .pointer (some ⟨x5 v, off, none⟩)) (ho : off = xF v + i) (hs : ∀ w, A w → Sl w v len cs) (hu : ∀ k u, us[k]? = some u → cs[i + k]? = some u) (ht : kx P t = some us.length) : RV P f ⟨some d, .load t x, ty, p, af, none⟩ A (.agg us.toArray) :=
  zHA hx ht (fun w hw k u hk => by subst ho; rw [Nat.add_assoc]; exact (hs w hw).at_ (hu k u hk))
theorem zDo (i : Nat) {b off : Nat} {e : TypeId} {cs : List Value} (us : List Value) (hx : ev f x = .pointer (some ⟨b, off, none⟩)) (hL : L[i]? = some (Res.row b e cs)) (hv : ∀ k u, us[k]? = some u → cs[off + k]? = some u) (ht : kx P t = some us.length) : RV P f ⟨some d, .load t x, ty, p, af, none⟩ (Own w0 S L) (.agg us.toArray) :=
  zHA hx ht (fun w hw k u hk => hw.rowCell hL (hv k u hk))
theorem zAO (i : Nat) {b off : Nat} {e : TypeId} {cs : List Value} (us : List Value) (hx : ev f x = .pointer (some ⟨b, off, none⟩)) (hL : L[i]? = some (Res.row b e cs)) (hv : ∀ k u, us[k]? = some u → cs[off + k]? = some u) (ht : kx P t = some us.length) (hd : Nat.blt d n = true)
    (k : CL P n ops rest N (upd f d (.agg us.toArray)) (Own w0 S L)) : CL P n ops (⟨some d, .load t x, ty, p, af, none⟩ :: rest) N f (Own w0 S L) := yN hd (zDo i us hx hL hv ht) k
theorem zk (m : List Nat) {L' : List Res} (hmm : m.mapM (fun i => L[i]?) = some L') (hn : m.Nodup) {id : Nat} {l : List Oper} (hm : P.follows .mixedOrders = true)
    (h : ∀ w, Own w0 S L w → Own w0 S L' w → HL P n l.toArray (Own w0 S L') N l.length (Array.replicate l.length false) f w) : C P n (.region id l.toArray true) N R X f (Own w0 S L) :=
  zJQ (Own w0 S L') hm (fun w hw => (hw.sel m hmm hn).drawn) (fun w hw => h _ hw.drawn (hw.sel m hmm hn).drawn)
theorem zEz {c a b : Operand} (hc : ev f c = .bool true) (hd : Nat.blt d n = true) (k : CL P n ops rest N (upd f d (ev f a)) A) : CL P n ops (⟨some d, .pick c a b, ty, p, af, none⟩ :: rest) N f A := zHL hc hd k
theorem kX {c a b : Operand} (hc : ev f c = .bool false) (hd : Nat.blt d n = true) (k : CL P n ops rest N (upd f d (ev f b)) A) : CL P n ops (⟨some d, .pick c a b, ty, p, af, none⟩ :: rest) N f A := zHL hc hd k
theorem yb {c a b : Operand} (hc : ev f c = .bool true) : RV P f ⟨some d, .pick c a b, ty, p, af, none⟩ A (ev f a) := zGP hc
theorem yG {c a b : Operand} (hc : ev f c = .bool false) : RV P f ⟨some d, .pick c a b, ty, p, af, none⟩ A (ev f b) := zGP hc
end
theorem zEr {α : Type} {g : α → List Value} {sz : Nat} (hg : ∀ x, (g x).length = sz) {l : List α} {j : Nat} {x : α} (hj : l[j]? = some x) {i : Nat} {u : Value} (hu : (g x)[i]? = some u) : (l.flatMap g)[j * sz + i]? = some u := by
  rw [zBC hg l j i x hj (by rw [← hg x]; exact (List.getElem?_eq_some_iff.1 hu).1)]; exact hu
theorem zHH {α : Type} {g : α → List Value} {sz : Nat} (hg : ∀ x, (g x).length = sz) {l : List α} {j : Nat} {x : α} (hj : l[j]? = some x) {o : Nat} {us : List Value} (hu : ∀ k u, us[k]? = some u → (g x)[o + k]? = some u) : ∀ k u, us[k]? = some u → (l.flatMap g)[j * sz + o + k]? = some u := by
  intro k u hk
  rw [Nat.add_assoc]
  exact zEr hg hj (hu k u hk)
end Go.Sc
