import Derived.Test.YtkkeknmkipkbmaaGreatFw5
import Derived.Laws.IdiomStrings
set_option linter.unusedSectionVars false
set_option linter.unusedSimpArgs false
set_option linter.unusedVariables false
namespace Go.Sc
def vb (c : UInt8) : Value := .int .u8 c.toNat
theorem xz (bs : List UInt8) : ∀ v ∈ bs.map vb, cell1 v = true := by
  intro v hv
  obtain ⟨c, _, rfl⟩ := List.mem_map.1 hv
  rfl
def vi (k : IntKind) (x : Int) : Value := .int k x
def xN (a : Option Addr) (cap l h m sz : Nat) : Value := .slice (if m = l then a else a.map (·.add (l * sz))) (h - l) (m - l)
theorem zAI (a : Option Addr) (len cap l h m sz : Nat) : yQ (xN a cap l h m sz) = yQ (.slice a len cap) := by
  cases a with
  | none => unfold xN; split <;> rfl
  | some a =>
    unfold xN
    split
    · rfl
    · simp [yQ, Addr.add]
      split <;> rfl
theorem zBk (a : Option Addr) (len cap l h m sz : Nat) (hm : m ≤ cap) : ∀ b ∈ xr (xN a cap l h m sz), b ∈ xr (.slice a len cap) := by
  intro b hb
  have h1 := ky b hb
  rw [zAI a len] at h1
  cases a with
  | none => simp [yQ] at h1
  | some a =>
    by_cases hc : 0 < cap
    · rw [j9 hc]; exact h1
    · have hc0 : cap = 0 := by omega
      have hm0 : m = 0 := by omega
      subst hc0; subst hm0
      unfold xN at hb
      rw [Nat.zero_sub] at hb
      split at hb <;> simp [xr] at hb
theorem Sl.sub {w : World} {a : Option Addr} {n cap : Nat} {cs : List Value} (hs : Sl w (.slice a n cap) n cs) {l h m sz : Nat} (h1 : l ≤ h) (h2 : h ≤ m) (h3 : m ≤ cap) (hn : h ≤ n) (hlen : cs.length = n * sz) :
    Sl w (xN a cap l h m sz) (h - l) ((cs.drop (l * sz)).take ((h - l) * sz)) := by
  rcases hs with ⟨a', e, rfl, rfl⟩ | ⟨b, off, cap', e, hc1, hc2, hb, hcell⟩
  · simp at e
    obtain ⟨rfl, rfl⟩ := e
    have e1 : m = 0 := by omega
    have e2 : l = 0 := by omega
    have e3 : h = 0 := by omega
    subst e1; subst e2; subst e3
    exact .inl ⟨_, by simp [xN]; rfl, rfl, by simp⟩
  · simp at e
    obtain ⟨rfl, rfl⟩ := e
    unfold xN
    by_cases hml : m = l
    · rw [if_pos hml]
      have : h = l := by omega
      subst this
      subst hml
      exact .inl ⟨some ⟨b, off, none⟩, by simp, by omega, by simp⟩
    · rw [if_neg hml]
      refine .inr ⟨b, off + l * sz, m - l, by simp [xH], by omega, by rw [yJ] at *; omega, hb, ?_⟩
      intro i u hu
      rw [List.getElem?_take] at hu
      split at hu
      · rw [List.getElem?_drop] at hu
        rw [Nat.add_assoc]
        exact hcell _ u hu
      · cases hu
section
variable {P : Program} {n : Nat} {ops : Array Oper} {N R : K} {X : List (Nat × K)} {f : Nat → Value} {A : World → Prop} {rest : List Oper}
variable {d : Nat} {ty : TypeId} {p : String} {af : Array Edge} {x y : Operand} {t e : TypeId} {sz by' : Nat}
variable {w0 : World} {S : List Nat} {L : List Res}
theorem zz {w : World} (h : Own w0 S L w) (e : TypeId) (sz : Nat) : Own w0 S (L ++ [Res.vec e sz (.slice none 0 0) 0 []]) w :=
  h.frame0 (Own.mk1 (Keep.refl _ _) (zDd w e sz) (fun b hb => by simp [Res.vec, yQ] at hb))
theorem yH (e : TypeId) (sz : Nat) (k : CL P n ops rest N f (Own w0 S (L ++ [Res.vec e sz (.slice none 0 0) 0 []]))) : CL P n ops rest N f (Own w0 S L) := fun w hw => k w (zz hw e sz)
theorem zAS (i : Nat) {v u : Value} {c m : Nat} {cs news : List Value} (ht : slT P t = some (e, sz, by')) (hx : ev f x = v) (hL : L[i]? = some (Res.vec e sz v c cs)) (hy : ev f y = u) (hs : ∀ w, Own w0 S L w → Sl w u m news)
    (hl : news.length = m * sz) (h1 : ∀ v ∈ news, cell1 v = true) (hb : (c + m) * by' ≤ 140737488355328) (h63 : c + m ≤ maxLen) (hd : Nat.blt d n = true)
    (k : ∀ v', CL P n ops rest N (upd f d v') (Own w0 S (L.set i (Res.vec e sz v' (c + m) (cs ++ news))))) :
    CL P n ops (⟨some d, .call ⟨.builtin .append, #[x, y], #[t, t]⟩, ty, p, af, none⟩ :: rest) N f (Own w0 S L) := by
  intro w hw
  obtain ⟨v', w', hr, hO⟩ := jC (P := P) (ty := ty) ht (hw.holds i _ hL) (hs w hw) hl h1 h63 hb
  have hO' := hw.frame1 (E := []) hL hO
  rw [List.append_nil] at hO'
  refine xE (w' := w') ?_ hd (k v' _ hO')
  simp [execOp, resolve, invoke, builtin, hx, hy, hr]
theorem zEZ {b off c m : Nat} {u : Value} {cs news : List Value} (ht : slT P t = some (e, sz, by')) (hx : ev f x = .slice (some ⟨b, off, none⟩) c c) (hv : ∀ w, Own w0 S L w → Sl w (.slice (some ⟨b, off, none⟩) c c) c cs) (hc : cs.length = c * sz)
    (hy : ev f y = u) (hs : ∀ w, Own w0 S L w → Sl w u m news) (hl : news.length = m * sz) (hm : 0 < m) (hb : (c + m) * by' ≤ 140737488355328) (h63 : c + m ≤ maxLen) (hd : Nat.blt d n = true)
    (k : ∀ v', CL P n ops rest N (upd f d v') (Own w0 S (L ++ [Res.vec e sz v' (c + m) (cs ++ news)]))) :
    CL P n ops (⟨some d, .call ⟨.builtin .append, #[x, y], #[t, t]⟩, ty, p, af, none⟩ :: rest) N f (Own w0 S L) := by
  intro w hw
  obtain ⟨v', w', hr, hO⟩ := kc (P := P) (ty := ty) ht (hv w hw) hc (hs w hw) hl hm h63 hb
  refine xE (w' := w') ?_ hd (k v' _ (hw.frame0 hO))
  simp [execOp, resolve, invoke, builtin, hx, hy, hr]
def bnd (f : Nat → Value) (dflt : Nat) : Option Operand → Nat → Prop
  | none, k => k = dflt
  | some o, k => ∃ kk, ev f o = .int kk (k : Int)
theorem yT {w : World} {v : Value} {kk : IntKind} {k c : Nat} (code : BoundsCode) (hv : v = .int kk (k : Int)) (hk : k ≤ c) : (Instr.sliceBound v c code).run P w = .ok k w := by
  subst hv
  simp [Instr.sliceBound, asIntOf, hk]
theorem zFB {a : Option Addr} {len cap l h : Nat} {lo hi : Option Operand} (ht : kC P t = some sz) (hx : ev f x = .slice a len cap) (hl : bnd f 0 lo l) (hh : bnd f len hi h) (h1 : l ≤ h) (h2 : h ≤ cap) : RV P f ⟨some d, .slice t x lo hi none, ty, p, af, none⟩ A ((xN a cap l h cap sz)) :=
  fun w _ => by
    unfold kC at ht
    split at ht
    · rename_i e he
      simp only [Option.map_eq_some_iff] at ht
      obtain ⟨i0, hi0, rfl⟩ := ht
      have hsl : (Instr.sliceBounds true len cap (lo.map (ev f)) (hi.map (ev f)) none).run P w = .ok (l, h, cap) w := by
        cases lo <;> cases hi <;> simp only [bnd] at hl hh
        · subst hl; subst hh; simp [Instr.sliceBounds]
        · subst hl; obtain ⟨kk, hh⟩ := hh
          simp [Instr.sliceBounds, yT (P := P) (w := w) _ hh h2]
        · subst hh; obtain ⟨kk, hl⟩ := hl
          simp [Instr.sliceBounds, yT (P := P) (w := w) _ hl h1]
        · obtain ⟨kk, hh⟩ := hh; obtain ⟨kl, hl⟩ := hl
          simp [Instr.sliceBounds, yT (P := P) (w := w) _ hl h1, yT (P := P) (w := w) _ hh h2]
      simp [execOp, Instr.sliceAt, hx, zg he, Instr.slice, hsl, sizeOf, typeInfo, hi0, xN]
    · cases ht
theorem zEU {a : Option Addr} {len cap l h m : Nat} {lo : Option Operand} {hi mx : Operand} (ht : kC P t = some sz) (hx : ev f x = .slice a len cap) (hl : bnd f 0 lo l) (hh : bnd f len (some hi) h) (hm : bnd f cap (some mx) m) (h1 : l ≤ h) (h2 : h ≤ m) (h3 : m ≤ cap) (hd : Nat.blt d n = true)
    (k : CL P n ops rest N (upd f d (xN a cap l h m sz)) A) : CL P n ops (⟨some d, .slice t x lo (some hi) (some mx), ty, p, af, none⟩ :: rest) N f A :=
  zp hd (fun w _ => by
    unfold kC at ht
    split at ht
    · rename_i e he
      simp only [Option.map_eq_some_iff] at ht
      obtain ⟨i0, hi0, rfl⟩ := ht
      have hsl : (Instr.sliceBounds true len cap (lo.map (ev f)) (some (ev f hi)) (some (ev f mx))).run P w = .ok (l, h, m) w := by
        obtain ⟨kk, hh⟩ := hh; obtain ⟨km, hm⟩ := hm
        cases lo <;> simp only [bnd] at hl
        · subst hl
          simp [Instr.sliceBounds, yT (P := P) (w := w) _ hm h3, yT (P := P) (w := w) _ hh h2]
        · obtain ⟨kl, hl⟩ := hl
          simp [Instr.sliceBounds, yT (P := P) (w := w) _ hl h1, yT (P := P) (w := w) _ hm h3, yT (P := P) (w := w) _ hh h2]
      simp [execOp, Instr.sliceAt, hx, zg he, Instr.slice, hsl, sizeOf, typeInfo, hi0, xN]
    · cases ht) k
def isBytesT (P : Program) (t : TypeId) : Bool := match P.underlying t with | some (.slice e) => (match P.underlying e with | some (.int .u8) => true | _ => false) | _ => false
theorem zAX (h : zA8 P t = true) : P.underlying t = some .string := by
  unfold zA8 at h
  split at h
  · assumption
  · cases h
theorem jt (s u : ByteArray) : (s.toList == u.toList) = decide (s = u) := by
  rw [ByteArray.toList_eq, ByteArray.toList_eq]
  by_cases h : s = u
  · subst h; simp
  · have : s.data.toList ≠ u.data.toList := fun e => h (by
      cases s; cases u; simp at e; simp [e])
    rw [decide_eq_false h]
    simpa using this
theorem zFO {s : ByteArray} {kk : IntKind} {j : Nat} {i : Int} (ht : zA8 P t = true) (hx : ev f x = .string s) (hy : ev f y = .int kk i) (hi : i = j) (hj : j < s.size) (hd : Nat.blt d n = true)
    (k : CL P n ops rest N (upd f d (vb s[j])) A) : CL P n ops (⟨some d, .index t x y, ty, p, af, none⟩ :: rest) N f A :=
  zp hd (fun w _ => by
    have h' := zAX ht
    subst hi
    have : s[j]? = some s[j] := by simp [hj]
    simp [execOp, hx, hy, Instr.index, asIntOf, zg h', this, vb]) k
end
end Go.Sc
