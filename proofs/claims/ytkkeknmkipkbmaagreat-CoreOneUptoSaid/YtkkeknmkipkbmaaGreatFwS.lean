import Derived.Test.YtkkeknmkipkbmaaGreatFwC
set_option linter.unusedSimpArgs false
set_option linter.unusedVariables false
set_option linter.unusedSectionVars false
namespace Go.Sc
theorem jF (b : Bool) : Value.bool b = .bool (decide (b = true)) := by cases b <;> rfl
def y1 (L : List Res) : List Nat := L.flatMap (·.fp)
def yG (m : List Nat) : Nat → List Res → List Res
  | _, [] => []
  | i, r :: L => bif m.any (Nat.beq i) then yG m (i + 1) L else r :: yG m (i + 1) L
theorem mem_fps {L : List Res} {b : Nat} : b ∈ y1 L ↔ ∃ (i : Nat) (r : Res), L[i]? = some r ∧ b ∈ r.fp := by
  unfold y1
  rw [List.mem_flatMap]
  constructor
  · rintro ⟨r, hr, hb⟩
    obtain ⟨i, hi, rfl⟩ := List.mem_iff_getElem.1 hr
    exact ⟨i, _, List.getElem?_eq_getElem hi, hb⟩
  · rintro ⟨i, r, hr, hb⟩
    exact ⟨r, List.mem_of_getElem? hr, hb⟩
theorem beq_any {m : List Nat} {i : Nat} : m.any (Nat.beq i) = true ↔ i ∈ m := by
  rw [List.any_eq_true]
  constructor
  · rintro ⟨x, hx, h⟩; rw [Nat.eq_of_beq_eq_true h]; exact hx
  · intro h; exact ⟨i, h, Nat.beq_refl i⟩
theorem jA (m : List Nat) : ∀ (L : List Res) (i : Nat), ∃ k : Nat → Nat, (∀ a b : Nat, a < (yG m i L).length → b < (yG m i L).length → k a = k b → a = b) ∧
    ∀ (j : Nat) (r : Res), (yG m i L)[j]? = some r → L[k j]? = some r ∧ i + k j ∉ m
  | [], i => ⟨id, by simp [yG], by simp [yG]⟩
  | r :: L, i => by
    obtain ⟨k, h1, h2⟩ := jA m L (i + 1)
    unfold yG
    cases hc : m.any (Nat.beq i) with
    | true =>
      refine ⟨fun j => k j + 1, fun a b ha hb e => h1 a b ha hb (by have e' : k a + 1 = k b + 1 := e; omega), fun j s hs => ?_⟩
      obtain ⟨h3, h4⟩ := h2 j s hs
      exact ⟨by simpa using h3, by rw [show i + (k j + 1) = i + 1 + k j by omega]; exact h4⟩
    | false =>
      refine ⟨fun j => match j with | 0 => 0 | j + 1 => k j + 1, ?_, ?_⟩
      · intro a b ha hb e
        match a, b with
        | 0, 0 => rfl
        | 0, b + 1 => simp at e
        | a + 1, 0 => simp at e
        | a + 1, b + 1 =>
          simp at ha hb e
          rw [h1 a b ha hb e]
      · intro j s hs
        match j with
        | 0 =>
          simp at hs
          refine ⟨by simpa using hs, fun hm => ?_⟩
          rw [beq_any.2 (by simpa using hm)] at hc; cases hc
        | j + 1 =>
          simp at hs
          obtain ⟨h3, h4⟩ := h2 j s hs
          exact ⟨by simpa using h3, by show i + (k j + 1) ∉ m; rw [show i + (k j + 1) = i + 1 + k j by omega]; exact h4⟩
section
variable {w0 w w' : World} {S : List Nat} {L Lin Lout : List Res}
theorem Own.give (m : List Nat) (hm : m.mapM (fun i => L[i]?) = some Lin) (hn : m.Nodup) (h : Own w0 S L w) : Own w (y1 Lin) Lin w := by
  have h' := h.sel m hm hn
  exact ⟨Keep.refl _ _, h'.apart, h'.holds, fun i r hr b hb => .inl (mem_fps.2 ⟨i, r, hr, hb⟩)⟩
theorem Own.fpsFresh (m : List Nat) (hm : m.mapM (fun i => L[i]?) = some Lin) (h : Own w0 S L w) : ∀ b ∈ y1 Lin, b ∈ S ∨ w0.heap.size ≤ b := by
  intro b hb
  obtain ⟨i, r, hr, hb⟩ := mem_fps.1 hb
  obtain ⟨k, _, hk⟩ := ko hm i r hr
  exact h.fresh k r hk b hb
theorem Own.frameL (m : List Nat) (hm : m.mapM (fun i => L[i]?) = some Lin) (h : Own w0 S L w) (hg : Own w (y1 Lin) Lout w') : Own w0 S (yG m 0 L ++ Lout) w' := by
  obtain ⟨k, hinj, hk⟩ := jA m L 0
  have hk' : ∀ (j : Nat) (r : Res), (yG m 0 L)[j]? = some r → L[k j]? = some r ∧ k j ∉ m := fun j r hr => by simpa using hk j r hr
  have hfr := h.fpsFresh m hm
  -- the rest's blocks are none of those that are given
  have hold : ∀ (j : Nat) (r : Res), (yG m 0 L)[j]? = some r → ∀ b ∈ r.fp, b < w.heap.size ∧ b ∉ y1 Lin := by
    intro j r hr b hb
    obtain ⟨h1, h2⟩ := hk' j r hr
    refine ⟨h.lt h1 b hb, fun hb' => ?_⟩
    obtain ⟨i, s, hs, hb'⟩ := mem_fps.1 hb'
    obtain ⟨q, hq, hqs⟩ := ko hm i s hs
    exact h.apart (k j) q r s (fun e => h2 (e ▸ List.mem_of_getElem? hq)) h1 hqs b hb hb'
  have hnew : ∀ (j : Nat) (s : Res), Lout[j]? = some s → ∀ b ∈ s.fp, b ∈ y1 Lin ∨ w.heap.size ≤ b := hg.fresh
  refine ⟨⟨hg.keep.os.trans h.keep.os, hg.keep.tape.trans h.keep.tape, hg.keep.output.trans h.keep.output, Nat.le_trans h.keep.size hg.keep.size, fun b hb hS => ?_⟩, ?_, ?_, ?_⟩
  · rw [hg.keep.block b (Nat.lt_of_lt_of_le hb h.keep.size) (fun hm' => ?_)]
    · exact h.keep.block b hb hS
    · rcases hfr b hm' with h1 | h1
      · exact hS h1
      · omega
  · intro i j r s hij hr hs b hb hb'
    rw [List.getElem?_append] at hr hs
    split at hr <;> split at hs
    · rename_i hi hj
      exact h.apart (k i) (k j) r s (fun e => hij (hinj i j hi hj e)) (hk' i r hr).1 (hk' j s hs).1 b hb hb'
    · have h1 := hold _ _ hr b hb
      rcases hnew _ _ hs b hb' with h2 | h2
      · exact h1.2 h2
      · omega
    · have h1 := hold _ _ hs b hb'
      rcases hnew _ _ hr b hb with h2 | h2
      · exact h1.2 h2
      · omega
    · exact hg.apart _ _ r s (by omega) hr hs b hb hb'
  · intro i r hr
    rw [List.getElem?_append] at hr
    split at hr
    · exact r.st w w' (h.holds _ r (hk' i r hr).1) fun b hb => hg.keep.block b (hold _ _ hr b hb).1 (hold _ _ hr b hb).2
    · exact hg.holds _ r hr
  · intro i r hr b hb
    rw [List.getElem?_append] at hr
    split at hr
    · exact h.fresh _ r (hk' i r hr).1 b hb
    · rcases hnew _ _ hr b hb with h1 | h1
      · exact hfr b h1
      · have := h.keep.size; right; omega
structure Rd (w : World) (S : List Nat) (r : Res) : Prop where
  φ : r.φ w
  far : ∀ b ∈ r.fp, b ∉ S
theorem Rd.sub {r r' : Res} (h : Rd w S r) (hφ : r.φ w → r'.φ w) (hf : ∀ b ∈ r'.fp, b ∈ r.fp) : Rd w S r' := ⟨hφ h.φ, fun b hb => h.far b (hf b hb)⟩
theorem Rd.of {r : Res} (h : r.φ w) : Rd w [] r := ⟨h, by simp⟩
theorem Own.rd {r : Res} (hr : Rd w0 S r) (h : Own w0 S L w) : r.φ w := h.old r hr.φ hr.far
theorem Own.rdTo {r : Res} (hr : Rd w0 S r) (m : List Nat) (hm : m.mapM (fun i => L[i]?) = some Lin) (h : Own w0 S L w) : Rd w (y1 Lin) r := by
  refine ⟨h.old r hr.φ hr.far, fun b hb hb' => ?_⟩
  rcases h.fpsFresh m hm b hb' with h1 | h1
  · exact hr.far b hb h1
  · have := r.lt w0 hr.φ b hb; omega
theorem Own.rdRes {r : Res} (j : Nat) (hL : L[j]? = some r) (m : List Nat) (hm : m.mapM (fun i => L[i]?) = some Lin) (hj : m.any (Nat.beq j) = false) (h : Own w0 S L w) : Rd w (y1 Lin) r := by
  refine ⟨h.holds j r hL, fun b hb hb' => ?_⟩
  obtain ⟨i, s, hs, hb'⟩ := mem_fps.1 hb'
  obtain ⟨q, hq, hqs⟩ := ko hm i s hs
  refine h.apart j q r s (fun e => ?_) hL hqs b hb hb'
  rw [beq_any.2 (e ▸ List.mem_of_getElem? hq)] at hj; cases hj
theorem Own.rd0 {r : Res} (hr : Rd w0 S r) (h : Own w0 S L w) : Rd w [] r := ⟨h.rd hr, by simp⟩
theorem Own.rdRes0 {r : Res} (j : Nat) (hL : L[j]? = some r) (h : Own w0 S L w) : Rd w [] r := ⟨h.holds j r hL, by simp⟩
end
def xq : Value → Nat
  | .slice (some a) _ _ => a.block
  | _ => 0
def y4 : Value → Nat
  | .slice (some a) _ _ => a.off
  | _ => 0
def yg (v : Value) (l h sz : Nat) : Value := match v with
  | .slice a _ cap => xN a cap l h cap sz
  | v => v
theorem Sl.at_ {w : World} {v : Value} {n : Nat} {cs : List Value} (h : Sl w v n cs) {i : Nat} {u : Value} (hu : cs[i]? = some u) : w.cell? ⟨xq v, y4 v + i, none⟩ = some u := by
  rcases h with ⟨a, rfl, _, rfl⟩ | ⟨b, off, cap, rfl, _, _, _, h4⟩
  · simp at hu
  · exact h4 i u hu
theorem Sl.subV {w : World} {v : Value} {n : Nat} {cs : List Value} (hs : Sl w v n cs) {l h sz : Nat} (h1 : l ≤ h) (hn : h ≤ n) (hlen : cs.length = n * sz) : Sl w (yg v l h sz) (h - l) ((cs.drop (l * sz)).take ((h - l) * sz)) := by
  obtain ⟨a, cap, rfl, hc, -, -⟩ := hs.shape
  exact hs.sub h1 (by omega) (Nat.le_refl _) hn hlen
theorem xC {w : World} {v : Value} {n : Nat} {cs : List Value} (hs : Sl w v n cs) (l h sz : Nat) : ∀ b ∈ xr (yg v l h sz), b ∈ xr v := by
  obtain ⟨a, cap, rfl, hc, -, -⟩ := hs.shape
  exact zBk a n cap l h cap sz (Nat.le_refl _)
theorem Rd.subV {w : World} {S : List Nat} {v : Value} {n : Nat} {cs : List Value} (hs : Rd w S (Res.sl v n cs)) {l h sz : Nat} (h1 : l ≤ h) (hn : h ≤ n) (hlen : cs.length = n * sz) : Rd w S (Res.sl (yg v l h sz) (h - l) ((cs.drop (l * sz)).take ((h - l) * sz))) :=
  hs.sub (fun h' => Sl.subV h' h1 hn hlen) (xC hs.φ l h sz)
section
variable {P : Program} {n : Nat} {ops : Array Oper} {N R : K} {X : List (Nat × K)} {f : Nat → Value} {A : World → Prop} {rest : List Oper}
variable {d : Nat} {ty : TypeId} {p : String} {af : Array Edge} {x y : Operand} {t : TypeId} {sz : Nat}
variable {w0 : World} {S : List Nat} {L : List Res} {v : Value} {len : Nat} {cs : List Value}
theorem zCN (ht : yy P t = true) (hx : ev f x = v) (hs : ∀ w, A w → Sl w v len cs) : RV P f ⟨some d, .call ⟨.builtin .len, #[x], #[t]⟩, ty, p, af, none⟩ A (.int .i64 len) := by
  intro w hw
  obtain ⟨a, cap, rfl, -⟩ := (hs w hw).shape
  exact zEv (A := A) ht hx w hw
theorem zCE {k : IntKind} {i : Int} {j : Nat} (hx : ev f x = v) (hy : ev f y = .int k i) (ht : kC P t = some sz) (hs : ∀ w, A w → Sl w v len cs) (hi : i = j) (hj : j < len) : RV P f ⟨some d, .indexAddr t x y, ty, p, af, none⟩ A (.pointer (some ⟨xq v, y4 v + j * sz, none⟩)) := by
  intro w hw
  obtain ⟨a, cap, rfl, h1, h2, h3⟩ := (hs w hw).shape
  obtain ⟨b, off, rfl⟩ := h3 (by omega)
  exact zE7 (A := A) hx hy ht hi hj w hw
theorem zC6 {l h : Nat} {lo hi : Option Operand} (ht : kC P t = some sz) (hx : ev f x = v) (hs : ∀ w, A w → Sl w v len cs) (hl : bnd f 0 lo l) (hh : bnd f len hi h) (h1 : l ≤ h) (h2 : h ≤ len) : RV P f ⟨some d, .slice t x lo hi none, ty, p, af, none⟩ A (yg v l h sz) := by
  intro w hw
  obtain ⟨a, cap, rfl, h3, -⟩ := (hs w hw).shape
  exact zFB (A := A) ht hx hl hh h1 (by omega) w hw
theorem zEX {l h : Nat} {lo hi : Option Operand} (ht : kC P t = some sz) (hx : ev f x = v) (hs : ∀ w, A w → Sl w v len cs) (hl : bnd f 0 lo l) (hh : bnd f len hi h) (h1 : l ≤ h) (h2 : h ≤ len) (hd : Nat.blt d n = true)
    (k : CL P n ops rest N (upd f d (yg v l h sz)) A) : CL P n ops (⟨some d, .slice t x lo hi none, ty, p, af, none⟩ :: rest) N f A := zp hd (zC6 ht hx hs hl hh h1 h2) k
theorem zDn (i : Nat) {off : Nat} {u : Value} (hx : ev f x = .pointer (some ⟨xq v, off, none⟩)) (ho : off = y4 v + i) (hs : ∀ w, A w → Sl w v len cs) (hu : cs[i]? = some u) (ht : one P t = true) : RV P f ⟨some d, .load t x, ty, p, af, none⟩ A u :=
  zEA hx ht (fun w hw => by subst ho; exact (hs w hw).at_ hu)
theorem zEM (i : Nat) {off : Nat} (us : List Value) (hx : ev f x = .pointer (some ⟨xq v, off, none⟩)) (ho : off = y4 v + i) (hs : ∀ w, A w → Sl w v len cs) (hu : ∀ k u, us[k]? = some u → cs[i + k]? = some u) (ht : xB P t = some us.length) : RV P f ⟨some d, .load t x, ty, p, af, none⟩ A (.agg us.toArray) :=
  zCH hx ht (fun w hw k u hk => by subst ho; rw [Nat.add_assoc]; exact (hs w hw).at_ (hu k u hk))
theorem zC9 (i : Nat) {b off : Nat} {e : TypeId} {cs : List Value} (us : List Value) (hx : ev f x = .pointer (some ⟨b, off, none⟩)) (hL : L[i]? = some (Res.row b e cs)) (hv : ∀ k u, us[k]? = some u → cs[off + k]? = some u) (ht : xB P t = some us.length) : RV P f ⟨some d, .load t x, ty, p, af, none⟩ (Own w0 S L) (.agg us.toArray) :=
  zCH hx ht (fun w hw k u hk => hw.rowCell hL (hv k u hk))
theorem js (i : Nat) {b off : Nat} {e : TypeId} {cs : List Value} (us : List Value) (hx : ev f x = .pointer (some ⟨b, off, none⟩)) (hL : L[i]? = some (Res.row b e cs)) (hv : ∀ k u, us[k]? = some u → cs[off + k]? = some u) (ht : xB P t = some us.length) (hd : Nat.blt d n = true)
    (k : CL P n ops rest N (upd f d (.agg us.toArray)) (Own w0 S L)) : CL P n ops (⟨some d, .load t x, ty, p, af, none⟩ :: rest) N f (Own w0 S L) := zp hd (zC9 i us hx hL hv ht) k
theorem zc (m : List Nat) {L' : List Res} (hmm : m.mapM (fun i => L[i]?) = some L') (hn : m.Nodup) {id : Nat} {l : List Oper} (hm : P.follows .mixedOrders = true)
    (h : ∀ w, Own w0 S L w → Own w0 S L' w → HL P n l.toArray (Own w0 S L') N l.length (Array.replicate l.length false) f w) : C P n (.region id l.toArray true) N R X f (Own w0 S L) :=
  zEr (Own w0 S L') hm (fun w hw => (hw.sel m hmm hn).drawn) (fun w hw => h _ hw.drawn (hw.sel m hmm hn).drawn)
theorem zBQ {c a b : Operand} (hc : ev f c = .bool false) (hd : Nat.blt d n = true) (k : CL P n ops rest N (upd f d (ev f b)) A) : CL P n ops (⟨some d, .pick c a b, ty, p, af, none⟩ :: rest) N f A := zEQ hc hd k
theorem kj {c a b : Operand} (hc : ev f c = .bool true) : RV P f ⟨some d, .pick c a b, ty, p, af, none⟩ A (ev f a) := zC2 hc
theorem zDG {c a b : Operand} (hc : ev f c = .bool false) : RV P f ⟨some d, .pick c a b, ty, p, af, none⟩ A (ev f b) := zC2 hc
end
theorem zBN {α : Type} {g : α → List Value} {sz : Nat} (hg : ∀ x, (g x).length = sz) {l : List α} {j : Nat} {x : α} (hj : l[j]? = some x) {i : Nat} {u : Value} (hu : (g x)[i]? = some u) : (l.flatMap g)[j * sz + i]? = some u := by
  rw [kq hg l j i x hj (by rw [← hg x]; exact (List.getElem?_eq_some_iff.1 hu).1)]; exact hu
theorem zDB {α : Type} {g : α → List Value} {sz : Nat} (hg : ∀ x, (g x).length = sz) {l : List α} {j : Nat} {x : α} (hj : l[j]? = some x) {o : Nat} {us : List Value} (hu : ∀ k u, us[k]? = some u → (g x)[o + k]? = some u) : ∀ k u, us[k]? = some u → (l.flatMap g)[j * sz + o + k]? = some u := by
  intro k u hk
  rw [Nat.add_assoc]
  exact zBN hg hj (hu k u hk)
end Go.Sc
