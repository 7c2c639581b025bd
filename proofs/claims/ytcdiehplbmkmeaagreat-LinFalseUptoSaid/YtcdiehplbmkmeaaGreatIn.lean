import Derived.Test.YtcdiehplbmkmeaaGreatCodec
import Derived.Test.YtcdiehplbmkmeaaGreatFwT
import Derived.Test.YtcdiehplbmkmeaaGreatChecked
set_option linter.unusedSectionVars false
set_option linter.unusedSimpArgs false
set_option linter.unusedVariables false
set_option maxRecDepth 10000
namespace Go.Proofs.YtcdiehplbmkmeaaGreat
open Go Go.Sc Go.Proofs
abbrev xa : Nat := 142
def vu (n : Nat) : Value := .int .u64 n
def yu (ns : List Nat) : List UInt8 := ns.flatMap num
theorem zAh {ns : List Nat} (h : ∀ n ∈ ns, n < 18446744073709551616) : (yu ns).length ≤ 9 * ns.length := by
  induction ns with
  | nil => simp [yu]
  | cons n ns ih =>
    have h1 := zGN (h n (by simp))
    have h2 := ih (fun m hm => h m (by simp [hm]))
    simp only [yu, List.flatMap_cons, List.length_append, List.length_cons] at h2 ⊢
    omega
abbrev EncOk (n : Nat) : Prop := n ≤ 100000000000
def fl (f : Bool) : Nat := bif f then 1 else 0
def zIe (ns : List Int) : List UInt8 := yu (u64 ns.length :: ns.map u64)
def Res.bv (o : Nat) (T : TypeId) (v : Value) (bs : List UInt8) : Res := (Res.row o T [v]).both (Res.vec T8 1 v bs.length (bs.map vb))
theorem _root_.Go.Sc.Own.splitBv {w0 w : World} {S : List Nat} {L : List Res} {i o : Nat} {T : TypeId} {v : Value} {bs : List UInt8} (hL : L[i]? = some (Res.bv o T v bs)) (h : Own w0 S L w) : Own w0 S (L.set i (Res.row o T [v]) ++ [Res.vec T8 1 v bs.length (bs.map vb)]) w := h.splitBoth hL
theorem _root_.Go.Sc.Own.joinBv {w0 w : World} {S : List Nat} {L : List Res} {i j o : Nat} {T : TypeId} {v : Value} {bs : List UInt8} (hij : i ≠ j) (h1 : L[i]? = some (Res.row o T [v])) (h2 : L[j]? = some (Res.vec T8 1 v bs.length (bs.map vb))) (h : Own w0 S L w) : Own w0 S ((L.set i (Res.bv o T v bs)).eraseIdx j) w := h.joinBoth hij h1 h2
theorem zDX (v : Value) (bs : List UInt8) (n : Nat) (w : World) (hn : n < 18446744073709551616) (hb : bs.length ≤ 1000000000000) (hv : Rd w [] (Res.sl v bs.length (bs.map vb))) : Rets Tryz.prog 74 #[v, Vn n] w fun u_ w' => ∃ (r : Value), u_ = r ∧ Own w [] [Res.vec 5 1 r (bs ++ num n).length ((bs ++ num n).map vb)] w' := by
  refine (zDw v bs n hn w hv.φ hb).mono ?_
  intro r w1 hO
  exact ⟨r, rfl, hO⟩
theorem zEf {S : List Nat} (o : Nat) (sl : Value) (bs : List UInt8) (lv : Value) (ns : List Nat) (w : World) (hns : ∀ n ∈ ns, n < 18446744073709551616) (hb : bs.length + 9 * ns.length ≤ 100000000000) (hin : Own w S [Res.bv o xa sl bs] w) (hl : Rd w S (Res.sl lv ns.length (ns.flatMap U1))) : Rets Tryz.prog 60 #[.pointer (some ⟨o, 0, none⟩), lv] w fun u_ w' => ∃ (sl' : Value), u_ = .tuple #[] ∧ Own w S [Res.bv o xa sl' (bs ++ yu ns)] w' := by
  refine ze Tryz.func60 rfl Tryz.ntmps60 hin ?_
  refine zB (zC rfl (yY (pR hl) rfl rfl (zC rfl (zA (zW ?_)))))
  refine xB (fun (k : Nat) (s : Value) => [(0, .pointer (some ⟨o, 0, none⟩)), (6, lv), (7, Vj ns.length), (8, Vj k)]) (fun (k : Nat) (s : Value) => k ≤ ns.length) (fun (k : Nat) (s : Value) => [Res.bv o xa s (bs ++ yu (ns.take k))]) (fun (k : Nat) (s : Value) => ns.length - k) (fun w' hw => ⟨0, sl, ⟨rfl, rfl, rfl, rfl, trivial⟩, Nat.zero_le _, by simpa [yu] using hw⟩) (fun k s g hΦ => ?_)
  have hle := zAh (ns := ns.take k) (fun n hn => hns n (List.mem_of_mem_take hn))
  have hmin : (ns.take k).length = k := by simp; omega
  refine zB (z9 rfl rfl rfl (zA (zL (zV rfl (fun c1 => ?_) (fun c1 => ?_)))))
  ·
   refine zJ (zL (zW (zB (zF (pR hl) 1 k rfl rfl rfl (by omega) rfl (zP (pR hl) 1 k 0 (fun _ => rfl) rfl rfl (by omega) rfl rfl (zH rfl (zA (zY (zC rfl (zC rfl (zt rfl rfl (zO (o := 0) rfl rfl ?_))))))))))))
   refine zCK [Res.row o xa [s], Res.vec 5 1 s (bs ++ yu (ns.take k)).length ((bs ++ yu (ns.take k)).map vb)] (fun w' hw => hw.splitBv (i := 0) (o := o) (T := xa) (v := s) (bs := (bs ++ yu (ns.take k))) rfl) ?_
   refine zU 0 (v := s) rfl rfl rfl rfl (zC rfl (zQ rfl rfl (fun w' hw => (zDX s (bs ++ yu (ns.take k)) (zG ns k) w' (hns _ (yR (by omega))) (by first | omega | (simp <;> omega) | (constructor <;> (first | omega | (simp <;> omega)))) (hw.rdVec0 1 rfl)).mono ?_)))
   rintro r1_ w1 ⟨_, rfl, hO⟩
   refine (?_ : CL _ _ _ _ _ _ (Own w S [Res.row o xa [s], Res.vec 5 1 s (bs ++ yu (ns.take k)).length ((bs ++ yu (ns.take k)).map vb), Res.vec 5 1 r1_ ((bs ++ yu (ns.take k)) ++ num (zG ns k)).length (((bs ++ yu (ns.take k)) ++ num (zG ns k)).map vb)])) w1 (hw.frame0 hO)
   refine zt rfl rfl (zO (o := 0) rfl rfl ?_)
   refine xc (fun w' hw => Own.cell1Vec (i := 2) rfl hw) (fun hc1_ => ?_)
   refine yn (cs := [s]) 0 rfl rfl rfl hc1_ rfl (zA (zY (zn rfl rfl (zh (by omega)) rfl (zC rfl ?_))))
   exact zd (fun w' hw => ⟨k + 1, r1_, ⟨rfl, rfl, rfl, rfl, trivial⟩, (by omega), by rw [yP (by omega)]; have h := (hw.joinBv (i := 0) (j := 2) (o := o) (T := xa) (v := r1_) (bs := bs ++ yu (ns.take k) ++ num (zG ns k)) (by decide) rfl rfl).one 0 rfl; simpa [yu] using h, (by omega)⟩)
  ·
   exact yr rfl (j8 rfl (fun w' hw => ⟨s, rfl, by rw [List.take_of_length_le (by omega)] at hw; exact hw⟩))
def le (n : Nat) : Nat → List UInt8
  | 0 => []
  | k + 1 => le n k ++ [UInt8.ofNat (n / 256 ^ k)]
theorem zEY (d : List UInt8) (h : d.length < 18446744073709551616) : (dat d).length ≤ d.length + 9 := by
  have := zGN h
  simp [dat]; omega
theorem zBG {α β : Type} (f : α → List β) (l : List α) (k : Nat) : ((l.take k).flatMap f).length ≤ (l.flatMap f).length := by
  have : l.flatMap f = (l.take k).flatMap f ++ (l.drop k).flatMap f := by rw [← List.flatMap_append, List.take_append_drop]
  rw [this, List.length_append]; omega
def beN (l : List UInt8) : Nat := l.foldl (fun n c => n * 256 + c.toNat) 0
def zLC (l : List UInt8) : Option (Nat × Nat) :=
  if l.length = 0 then none else if 8 < (zG l 0).toNat ∨ (1 < l.length ∧ 0 < (zG l 0).toNat) ∧ (zG l 1).toNat = 0 then none else if l.length ≤ (zG l 0).toNat then none else some (beN ((l.take (1 + (zG l 0).toNat)).drop 1), 1 + (zG l 0).toNat)
def zBI (b : List UInt8) (at_ : Nat) : Option (Nat × Nat) := (zLC (b.drop at_)).map fun q => (q.1, at_ + q.2)
def NumPost (p : Option (Nat × Nat)) (n k : Nat) (e : Int) : Prop := (e = 0 ∧ p = some (n, k)) ∨ (e ≠ 0 ∧ n = 0 ∧ k = 0 ∧ p = none)
theorem NumPost.yes {p : Option (Nat × Nat)} {n k : Nat} {e : Int} (h : NumPost p n k e) (he : e = 0) : p = some (n, k) := by
  rcases h with h | h
  · exact h.2
  · exact absurd he h.1
theorem NumPost.no {p : Option (Nat × Nat)} {n k : Nat} {e : Int} (h : NumPost p n k e) (he : e ≠ 0) : p = none := by
  rcases h with h | h
  · exact absurd h.1 he
  · exact h.2.2.2
structure RdS {α : Type} (p : List UInt8 → Nat → Option (α × Nat)) (b : List UInt8) (a : Nat) (bad : Bool) (x : α) (a' : Nat) (bad' : Bool) : Prop where
  le : a' ≤ b.length
  st : bad = true → bad' = true
  ok : ∀ v k, bad = false → p b a = some (v, k) → bad' = false ∧ x = v ∧ a' = k
  no : bad = false → p b a = none → bad' = true
def zAS {α : Type} (x : α) : List UInt8 → Nat → Option (α × Nat) := fun _ a => some (x, a)
def xE {α β : Type} (p : List UInt8 → Nat → Option (α × Nat)) (q : α → List UInt8 → Nat → Option (β × Nat)) : List UInt8 → Nat → Option (β × Nat) := fun b a => (p b a).bind fun r => q r.1 b r.2
theorem RdS.pure {α : Type} {b : List UInt8} {a : Nat} {bad : Bool} (x : α) (h : a ≤ b.length) : RdS (zAS x) b a bad x a bad :=
  ⟨h, id, fun v k hb h => (by simp only [zAS, Option.some.injEq, Prod.mk.injEq] at h; exact ⟨hb, h.1, h.2⟩), fun _ h => (by cases h)⟩
theorem RdS.bind {α β : Type} {p : List UInt8 → Nat → Option (α × Nat)} {q : α → List UInt8 → Nat → Option (β × Nat)} {b : List UInt8} {a a1 a2 : Nat} {bad bad1 bad2 : Bool} {x : α} {y : β}
    (h1 : RdS p b a bad x a1 bad1) (h2 : RdS (q x) b a1 bad1 y a2 bad2) : RdS (xE p q) b a bad y a2 bad2 := by
  refine ⟨h2.le, fun h => h2.st (h1.st h), fun v k hb h => ?_, fun hb h => ?_⟩
  · simp only [xE, Option.bind_eq_some_iff] at h
    obtain ⟨⟨u, j⟩, h3, h4⟩ := h
    obtain ⟨e1, rfl, rfl⟩ := h1.ok u j hb h3
    exact h2.ok v k e1 h4
  · cases hp : p b a with
    | none => exact h2.st (h1.no hb hp)
    | some r =>
      obtain ⟨u, j⟩ := r
      obtain ⟨e1, rfl, rfl⟩ := h1.ok u j hb hp
      simp only [xE, hp, Option.bind_some] at h
      exact h2.no e1 h
theorem RdS.map {α β : Type} {p : List UInt8 → Nat → Option (α × Nat)} {b : List UInt8} {a a1 : Nat} {bad bad1 : Bool} {x : α} (g : α → β) (h : RdS p b a bad x a1 bad1) : RdS (xE p fun v => zAS (g v)) b a bad (g x) a1 bad1 :=
  h.bind (RdS.pure _ h.le)
theorem RdS.done {α : Type} {p : List UInt8 → Nat → Option (α × Nat)} {b : List UInt8} {a a' : Nat} {bad : Bool} {x : α} (ha : a' ≤ b.length) (hp : p b a = some (x, a')) : RdS p b a bad x a' bad :=
  ⟨ha, id, fun v k h h' => (by rw [hp] at h'; cases h'; exact ⟨h, rfl, rfl⟩), fun _ h' => (by rw [hp] at h'; cases h')⟩
def zHG (most : Nat) : List UInt8 → Nat → Option (Nat × Nat) := fun b a => (zBI b a).bind fun q => if most < q.1 then none else some q
def zJz (b : List UInt8) (a : Nat) : Option (List UInt8 × Nat) := (zBI b a).bind fun q => if b.length - q.2 < q.1 then none else some ((b.take (q.2 + q.1)).drop q.2, q.2 + q.1)
theorem zGf (v : Value) (l : List UInt8) (w : World) (hl : z6 l.length) (hv : Rd w [] (Res.sl v l.length (l.map vb))) : Rets Tryz.prog 97 #[v] w fun u_ w' => ∃ (r : Value), u_ = r ∧ Own w [] [Res.vec 5 1 r l.length (l.map vb)] w' := by
  refine ze Tryz.func97 rfl Tryz.ntmps97 (Own.start w) ?_
  refine zB (zH rfl (zA (zL (zB (zC rfl (zCp (len := l.length) (cs := (l.map vb)) (by kernel_rfl) rfl rfl (fun w' hw' => Own.rd hv hw') rfl (zA (jm rfl (fun c1 => ?_) (fun c1 => ?_)))))))))
  ·
   refine zB (zH rfl (zA ?_))
   exact zN (z4 (v := .slice none 0 0) rfl rfl (fun w' hw => ⟨.slice none 0 0, rfl, by obtain ⟨_, h0⟩ := Sl.isNil hv.φ c1; rw [List.eq_nil_of_length_eq_zero h0]; exact yZ hw 5 1⟩))
  ·
   refine zJ (zB (yh (e := 5) (sz := 1) (vs := []) (by kernel_rfl) rfl rfl (by simp [Value.cells]) (by decide) rfl (fun b5 => zC rfl (zGC (l := ([] : List UInt8)) (l' := l) 0 (by kernel_rfl) rfl rfl rfl (fun w' hw' => Own.rd hv hw') (by first | omega | (simp; omega)) rfl (fun v7 => zH rfl (zA ?_))))))
   exact zN (z4 (v := v7) rfl rfl (fun w' hw => ⟨v7, rfl, hw⟩))
def BytesPost (p : Option (List UInt8 × Nat)) (d : List UInt8) (k : Nat) (e : Int) : Prop := (e = 0 ∧ p = some (d, k)) ∨ (e ≠ 0 ∧ p = none)
end Go.Proofs.YtcdiehplbmkmeaaGreat