import Derived.Test.YtkkeknmkipkbmaaGreatRefW
set_option linter.unusedSectionVars false
set_option linter.unusedSimpArgs false
set_option linter.unusedVariables false
set_option maxRecDepth 10000
namespace Go.Proofs.YtkkeknmkipkbmaaGreat
open Go Go.Sc Go.Proofs
def beN (l : List UInt8) : Nat := l.foldl (fun n c => n * 256 + c.toNat) 0
theorem zHq (l : List UInt8) (c : UInt8) : beN (l ++ [c]) = beN l * 256 + c.toNat := by simp [beN]
theorem zBp : ∀ (l : List UInt8) (n : Nat), l.foldl (fun n c => n * 256 + c.toNat) n < (n + 1) * 256 ^ l.length
  | [], n => by simp
  | c :: l, n => by
    have h := zBp l (n * 256 + c.toNat)
    have hc := c.toNat_lt
    rw [List.foldl_cons, List.length_cons, Nat.pow_succ]
    refine Nat.lt_of_lt_of_le h ?_
    rw [show (n + 1) * (256 ^ l.length * 256) = ((n + 1) * 256) * 256 ^ l.length by rw [Nat.mul_assoc, Nat.mul_comm (256 ^ l.length)]]
    exact Nat.mul_le_mul_right _ (by omega)
theorem zGN (l : List UInt8) : beN l < 256 ^ l.length := by
  have := zBp l 0
  simpa [beN] using this
theorem zFa {k : Nat} (h : k ≤ 8) : 256 ^ k ≤ 18446744073709551616 := by
  have := Nat.pow_le_pow_right (n := 256) (by omega) h
  simpa using this
theorem zDr {k : Nat} (h : k ≤ 7) : 256 ^ k ≤ 72057594037927936 := by
  have := Nat.pow_le_pow_right (n := 256) (by omega) h
  simpa using this
theorem zJB {m c : Nat} (h : c < 256) : (m * 256) ||| c = m * 256 + c := by
  have := Nat.two_pow_add_eq_or_of_lt (i := 8) (b := c) (by simpa using h) m
  rw [Nat.mul_comm]; simpa using this.symm
theorem zJZ {m c : Nat} (hm : m < 72057594037927936) (h : c < 256) : IntKind.u64.wrap ((((((m * 256 : Nat) : Int) % 2 ^ IntKind.u64.bits).toNat ||| (((c : Nat) : Int) % 2 ^ IntKind.u64.bits).toNat : Nat)) : Int) = ((m * 256 + c : Nat) : Int) := by
  have e1 : (((m * 256 : Nat) : Int) % 2 ^ IntKind.u64.bits).toNat = m * 256 := by simp [IntKind.bits]; omega
  have e2 : (((c : Nat) : Int) % 2 ^ IntKind.u64.bits).toNat = c := by simp [IntKind.bits]; omega
  rw [e1, e2, zJB h]
  exact y6 (by omega)
theorem zIX {m : Nat} (hm : m < 72057594037927936) : IntKind.u64.wrap (((m : Nat) : Int) * 2 ^ (min (8 : Int).toNat IntKind.u64.bits)) = ((m * 256 : Nat) : Int) := by
  have e : (2 : Int) ^ (min (8 : Int).toNat IntKind.u64.bits) = 256 := by decide
  rw [e, y6 (by omega)]; omega
def zBi (l : List UInt8) : Option (Nat × Nat) :=
  if l.length = 0 then none else if 8 < (zG l 0).toNat ∨ (1 < l.length ∧ 0 < (zG l 0).toNat) ∧ (zG l 1).toNat = 0 then none else if l.length ≤ (zG l 0).toNat then none else some (beN ((l.take (1 + (zG l 0).toNat)).drop 1), 1 + (zG l 0).toNat)
def zAv (b : List UInt8) (at_ : Nat) : Option (Nat × Nat) := (zBi (b.drop at_)).map fun q => (q.1, at_ + q.2)
theorem zEF {l : List UInt8} {n k : Nat} (h : zBi l = some (n, k)) : n < 18446744073709551616 ∧ k ≤ l.length ∧ 1 ≤ k := by
  unfold zBi at h
  split at h
  · cases h
  · split at h
    · cases h
    · split at h
      · cases h
      · rename_i h1 h2 h3
        simp only [Option.some.injEq, Prod.mk.injEq] at h
        obtain ⟨rfl, rfl⟩ := h
        refine ⟨Nat.lt_of_lt_of_le (zGN _) (zFa (by simp; omega)), by omega, by omega⟩
theorem zCB {b : List UInt8} {a n k : Nat} (h : zAv b a = some (n, k)) : n < 18446744073709551616 ∧ k ≤ b.length ∧ a < k := by
  unfold zAv at h
  rw [Option.map_eq_some_iff] at h
  obtain ⟨⟨n', k'⟩, h1, h2⟩ := h
  simp only [Prod.mk.injEq] at h2
  obtain ⟨rfl, rfl⟩ := h2
  obtain ⟨h3, h4, h5⟩ := zEF h1
  rw [List.length_drop] at h4
  exact ⟨h3, by omega, by omega⟩
theorem zGv (v : Value) (b : List UInt8) (a : Nat) (w : World) (hl : zd b.length) (hb : Rd w [] (Res.sl v b.length (b.map vb))) : Rets Tryz.prog 190 #[v, Vj a] w fun u_ w' => u_ = .bool (decide (a ≤ b.length)) ∧ Own w [] [] w' := by
  refine zT Tryz.func190 rfl Tryz.ntmps190 (Own.start w) ?_
  refine zB (zK rfl (zA (zB (zD rfl (kK rfl rfl rfl (zD rfl (yd (q := 0 ≤ ((a : Nat) : Int)) 4 2 [11, 10, 9, 8] (((a : Nat) : Int) ≤ ((b.length : Nat) : Int)) rfl rfl rfl rfl rfl rfl trivial rfl (fun h1_2 => ?_) (fun g1_7 => ?_))))))))
  ·
   refine zO rfl (gT h1_2) (zD rfl (zO rfl (gT h1_2) (zD rfl (zO rfl (gT h1_2) (zq (pR hb) rfl rfl (zO rfl (gT h1_2) (x4 rfl rfl rfl ?_)))))))
   exact yK rfl (fun _ hw => hw)
  refine zK rfl (zA ?_)
  exact zY (yD (v := .bool (decide ((0 ≤ ((a : Nat) : Int)) ∧ (((a : Nat) : Int) ≤ ((b.length : Nat) : Int))))) rfl rfl (fun w' hw => ⟨(by congr 1; exact decide_eq_decide.2 (by omega)), hw.drop⟩))
def NumPost (p : Option (Nat × Nat)) (n k : Nat) (e : Int) : Prop := (e = 0 ∧ p = some (n, k)) ∨ (e ≠ 0 ∧ n = 0 ∧ k = 0 ∧ p = none)
theorem NumPost.yes {p : Option (Nat × Nat)} {n k : Nat} {e : Int} (h : NumPost p n k e) (he : e = 0) : p = some (n, k) := by
  rcases h with h | h
  · exact h.2
  · exact absurd he h.1
theorem NumPost.no {p : Option (Nat × Nat)} {n k : Nat} {e : Int} (h : NumPost p n k e) (he : e ≠ 0) : p = none := by
  rcases h with h | h
  · exact absurd h.1 he
  · exact h.2.2.2
theorem zKp (v : Value) (b : List UInt8) (a : Nat) (w : World) (hl : zd b.length) (ha : a ≤ b.length) (hb : Rd w [] (Res.sl v b.length (b.map vb))) : Rets Tryz.prog 146 #[v, Vj a] w fun u_ w' => ∃ (n : Nat) (k : Nat) (e : Int), u_ = .tuple #[Vn n, Vj k, Vi e] ∧ NumPost (zAv b a) n k e ∧ Own w [] [] w' := by
  have hk := (zG (b.drop a) 0).toNat_lt
  have hd : (b.drop a).length = b.length - a := by simp
  have hsub : (((b.drop a).take (1 + (zG (b.drop a) 0).toNat)).drop 1).length = min (1 + (zG (b.drop a) 0).toNat) (b.length - a) - 1 := by simp
  refine zT Tryz.func146 rfl Tryz.ntmps146 (Own.start w) ?_
  refine zB (zK rfl (zK rfl (zK rfl (zA (zQ (zB (zD rfl (zD rfl (zH rfl rfl (fun w' hw => (zGv v b a w' (by first | assumption | omega | (simp <;> omega) | (constructor <;> (first | omega | (simp only [zd]; omega) | (simp <;> omega)))) (hw.rd0 hb)).mono ?_))))))))))
  rintro _ w1 ⟨rfl, hO⟩
  refine (?_ : CL _ _ _ _ _ _ (Own w [] [])) w1 (hw.frame0 hO)
  refine xM (q := a ≤ b.length) rfl rfl (zA (y1 rfl (by omega) (zR (zB (zD rfl (zD rfl (zCk (pR hb) 1 a b.length (by kernel_rfl) rfl ⟨_, rfl⟩ rfl (by omega) (by omega) rfl ?_)))))))
  have hs1_ := Rd.dropL_m (g := vb) (xs := b)  hb (l := a) (by omega)
  refine zK rfl (zA (zQ (zc (zB (zD rfl (zq (pR hs1_) rfl rfl (yZ rfl rfl rfl (zK rfl (zA (zf rfl (fun c2 => ?_) (fun c2 => ?_)))))))))))
  ·
   refine zB (zK rfl (zK rfl (zK rfl (zA ?_))))
   exact zY (zCo (v := Vn 0) (v' := Vi 0) (v'' := Vi 5) rfl rfl rfl rfl (fun w' hw => ⟨0, 0, 5, rfl, .inr ⟨by decide, rfl, rfl, by unfold zAv zBi; rw [if_pos (by omega)]; rfl⟩, hw.drop⟩))
  ·
   refine zB (zD rfl (zm (pR hs1_) 1 0 rfl rfl rfl (by omega) rfl (zA9 (pR hs1_) 0 rfl (by omega) (by omega) rfl (yo rfl rfl rfl (zD rfl (yT (q := ((8 : Nat) : Int) < (((zG (b.drop a) 0).toNat : Nat) : Int)) 15 4 [42, 41, 40, 39, 38, 37, 36, 35, 34, 33, 32, 31, 30, 29, 28] (((1 < (((b.drop a).length : Nat) : Int)) ∧ (((0 : Nat) : Int) < (((zG (b.drop a) 0).toNat : Nat) : Int))) ∧ ((((zG (b.drop a) 1).toNat : Nat) : Int) = ((0 : Nat) : Int))) rfl rfl rfl rfl rfl rfl trivial rfl (fun h6_4 => ?_) (fun g6_20 => ?_)))))))
   ·
    refine zO rfl (gF h6_4) (zD rfl (zO rfl (gF h6_4) (zq (pR hs1_) rfl rfl (zO rfl (gF h6_4) (yo rfl rfl rfl (zO rfl (gF h6_4) (zD rfl (yd (q := 1 < (((b.drop a).length : Nat) : Int)) 4 8 [35, 34, 33, 32] (((0 : Nat) : Int) < (((zG (b.drop a) 0).toNat : Nat) : Int)) rfl rfl rfl rfl rfl rfl ⟨_, rfl, rfl, gF h6_4⟩ rfl (fun h6_8 => ?_) (fun g6_13 => ?_)))))))))
    ·
     refine zO rfl (gT h6_8) (zD rfl (zO rfl (gT h6_8) (zm (pR hs1_) 1 0 rfl rfl rfl (by omega) rfl (zO rfl (gT h6_8) (zA9 (pR hs1_) 0 rfl (by omega) (by omega) rfl (zO rfl (gT h6_8) (yo rfl rfl rfl ?_)))))))
     exact yK rfl (fun _ hw => hw)
    refine zO rfl (gF h6_4) (zD rfl (yd (q := (1 < (((b.drop a).length : Nat) : Int)) ∧ (((0 : Nat) : Int) < (((zG (b.drop a) 0).toNat : Nat) : Int))) 4 14 [41, 40, 39, 38] ((((zG (b.drop a) 1).toNat : Nat) : Int) = ((0 : Nat) : Int)) rfl rfl rfl rfl rfl rfl ⟨_, rfl, rfl, gF h6_4⟩ rfl (fun h6_14 => ?_) (fun g6_19 => ?_)))
    ·
     refine zO rfl (gT h6_14) (zD rfl (zO rfl (gT h6_14) (zm (pR hs1_) 1 1 rfl rfl rfl (by omega) rfl (zO rfl (gT h6_14) (zA9 (pR hs1_) 1 rfl (by omega) (by omega) rfl (zO rfl (gT h6_14) (yZ rfl rfl rfl ?_)))))))
     exact yK rfl (fun _ hw => hw)
    exact yK rfl (fun _ hw => hw)
   refine zK rfl (zA (zf rfl (fun c3 => ?_) (fun c3 => ?_)))
   ·
    refine zB (zK rfl (zK rfl (zK rfl (zA ?_))))
    exact zY (zCo (v := Vn 0) (v' := Vi 0) (v'' := Vi 4) rfl rfl rfl rfl (fun w' hw => ⟨0, 0, 4, rfl, .inr ⟨by decide, rfl, rfl, by unfold zAv zBi; rw [if_neg (by omega), if_pos (by omega)]; rfl⟩, hw.drop⟩))
   ·
    refine zR (zB (zD rfl (zm (pR hs1_) 1 0 rfl rfl rfl (by omega) rfl (zA9 (pR hs1_) 0 rfl (by omega) (by omega) rfl (xe (by kernel_rfl) rfl (zy (by omega)) rfl ?_ (by kernel_rfl))))))
    refine zK rfl (zA (zQ (zB (zD rfl (zq (pR hs1_) rfl rfl (zD rfl (x4 rfl rfl rfl (zA (zf rfl (fun c4 => ?_) (fun c4 => ?_))))))))))
    ·
     refine zB (zK rfl (zK rfl (zK rfl (zA ?_))))
     exact zY (zCo (v := Vn 0) (v' := Vi 0) (v'' := Vi 5) rfl rfl rfl rfl (fun w' hw => ⟨0, 0, 5, rfl, .inr ⟨by decide, rfl, rfl, by unfold zAv zBi; rw [if_neg (by omega), if_neg (by omega), if_pos (by omega)]; rfl⟩, hw.drop⟩))
    ·
     refine zR (zQ (zB (zD rfl (zD rfl (z3 rfl rfl (zy (by omega)) rfl (zCk (pR hs1_) 1 1 (1 + ((zG (b.drop a) 0).toNat)) (by kernel_rfl) rfl ⟨_, rfl⟩ ⟨_, rfl⟩ (by omega) (by omega) rfl ?_))))))
     have hs2_ := Rd.subL_m (g := vb) (xs := (b.drop a))  hs1_ (l := 1) (h := 1 + ((zG (b.drop a) 0).toNat)) (by omega) (by omega)
     refine zq (pR hs2_) rfl rfl (zD rfl (zA (zc ?_)))
     refine xS (fun (j : Nat) => [(1, Vj a), (4, Vn (beN ((((b.drop a).take (1 + (zG (b.drop a) 0).toNat)).drop 1).take j))), (8, Vj ((zG (b.drop a) 0).toNat)), (55, (xi (xi v a b.length 1) 1 (1 + ((zG (b.drop a) 0).toNat)) 1)), (56, Vj ((((b.drop a).take (1 + ((zG (b.drop a) 0).toNat))).drop 1).length)), (57, Vj j)]) (fun (j : Nat) => j ≤ (((b.drop a).take (1 + (zG (b.drop a) 0).toNat)).drop 1).length) (fun (j : Nat) => []) (fun (j : Nat) => (((b.drop a).take (1 + (zG (b.drop a) 0).toNat)).drop 1).length - j) (fun w' hw => ⟨0, ⟨rfl, rfl, rfl, rfl, rfl, rfl, trivial⟩, Nat.zero_le _, hw⟩) (fun j g hΦ => ?_)
     have hlt := zGN ((((b.drop a).take (1 + (zG (b.drop a) 0).toNat)).drop 1).take j)
     have hlj : ((((b.drop a).take (1 + (zG (b.drop a) 0).toNat)).drop 1).take j).length = j := by rw [List.length_take]; omega
     rw [hlj] at hlt
     refine zB (yJ rfl rfl rfl (zA (zQ (zf rfl (fun c5 => ?_) (fun c5 => ?_)))))
     ·
      have hp7 := zDr (k := j) (by omega)
      have hcl := (zG (((b.drop a).take (1 + (zG (b.drop a) 0).toNat)).drop 1) j).toNat_lt
      refine zR (zQ (zc (zB (zm (pR hs2_) 1 j rfl rfl rfl (by omega) rfl (zA9 (pR hs2_) j rfl (by omega) (by omega) rfl (zK rfl (zA (zW (zD rfl (zKY (c := (((beN ((((b.drop a).take (1 + (zG (b.drop a) 0).toNat)).drop 1).take j)) * 256 : Nat) : Int)) rfl rfl (by decide) (zIX (by omega)) rfl (zD rfl (xe (by kernel_rfl) rfl (y6 (by omega)) rfl ?_ (by kernel_rfl)))))))))))))
      refine zLC (c := (((beN ((((b.drop a).take (1 + (zG (b.drop a) 0).toNat)).drop 1).take j)) * 256 + (zG (((b.drop a).take (1 + (zG (b.drop a) 0).toNat)).drop 1) j).toNat : Nat) : Int)) rfl rfl (zJZ (by omega) hcl) rfl (zK rfl (zA (zW (z3 rfl rfl (zy (by omega)) rfl (zD rfl ?_)))))
      exact zj (fun w' hw => ⟨j + 1, ⟨rfl, by rw [zu (by omega), zHq]; rfl, rfl, rfl, rfl, rfl, trivial⟩, (by omega), hw, (by omega)⟩)
     ·
      refine yQ rfl (zB (zD rfl (zD rfl (z3 rfl rfl (zy (by omega)) rfl (zD rfl (z3 rfl rfl (zy (by omega)) rfl (zK rfl (zK rfl (zK rfl (zA ?_))))))))))
      exact zY (zCo (v := Vn (beN ((((b.drop a).take (1 + (zG (b.drop a) 0).toNat)).drop 1).take j))) (v' := Vj ((a + 1) + ((zG (b.drop a) 0).toNat))) (v'' := Vi 0) rfl rfl rfl rfl (fun w' hw => ⟨(beN ((((b.drop a).take (1 + (zG (b.drop a) 0).toNat)).drop 1).take j)), (a + 1) + ((zG (b.drop a) 0).toNat), 0, rfl, .inl ⟨rfl, by unfold zAv zBi; rw [if_neg (by omega), if_neg (by omega), if_neg (by omega), List.take_of_length_le (i := j) (by omega)]; simp [Nat.add_assoc]⟩, hw.drop⟩))
structure RdS {α : Type} (p : List UInt8 → Nat → Option (α × Nat)) (b : List UInt8) (a : Nat) (bad : Bool) (x : α) (a' : Nat) (bad' : Bool) : Prop where
  le : a' ≤ b.length
  st : bad = true → bad' = true
  ok : ∀ v k, bad = false → p b a = some (v, k) → bad' = false ∧ x = v ∧ a' = k
  no : bad = false → p b a = none → bad' = true
theorem RdS.good {α : Type} {p : List UInt8 → Nat → Option (α × Nat)} {b : List UInt8} {a a' : Nat} {bad bad' : Bool} {x : α} (h : RdS p b a bad x a' bad') (hb : bad' = false) : bad = false ∧ p b a = some (x, a') := by
  have h0 : bad = false := by cases bad; rfl; have := h.st rfl; rw [this] at hb; cases hb
  refine ⟨h0, ?_⟩
  cases hp : p b a with
  | none => have := h.no h0 hp; rw [this] at hb; cases hb
  | some q => obtain ⟨v, k⟩ := q; obtain ⟨_, rfl, rfl⟩ := h.ok v k h0 hp; rfl
def zBS {α : Type} (x : α) : List UInt8 → Nat → Option (α × Nat) := fun _ a => some (x, a)
def ji {α β : Type} (p : List UInt8 → Nat → Option (α × Nat)) (q : α → List UInt8 → Nat → Option (β × Nat)) : List UInt8 → Nat → Option (β × Nat) := fun b a => (p b a).bind fun r => q r.1 b r.2
theorem RdS.pure {α : Type} {b : List UInt8} {a : Nat} {bad : Bool} (x : α) (h : a ≤ b.length) : RdS (zBS x) b a bad x a bad :=
  ⟨h, id, fun v k hb h => (by simp only [zBS, Option.some.injEq, Prod.mk.injEq] at h; exact ⟨hb, h.1, h.2⟩), fun _ h => (by cases h)⟩
theorem RdS.bind {α β : Type} {p : List UInt8 → Nat → Option (α × Nat)} {q : α → List UInt8 → Nat → Option (β × Nat)} {b : List UInt8} {a a1 a2 : Nat} {bad bad1 bad2 : Bool} {x : α} {y : β}
    (h1 : RdS p b a bad x a1 bad1) (h2 : RdS (q x) b a1 bad1 y a2 bad2) : RdS (ji p q) b a bad y a2 bad2 := by
  refine ⟨h2.le, fun h => h2.st (h1.st h), fun v k hb h => ?_, fun hb h => ?_⟩
  · simp only [ji, Option.bind_eq_some_iff] at h
    obtain ⟨⟨u, j⟩, h3, h4⟩ := h
    obtain ⟨e1, rfl, rfl⟩ := h1.ok u j hb h3
    exact h2.ok v k e1 h4
  · cases hp : p b a with
    | none => exact h2.st (h1.no hb hp)
    | some r =>
      obtain ⟨u, j⟩ := r
      obtain ⟨e1, rfl, rfl⟩ := h1.ok u j hb hp
      simp only [ji, hp, Option.bind_some] at h
      exact h2.no e1 h
theorem RdS.map {α β : Type} {p : List UInt8 → Nat → Option (α × Nat)} {b : List UInt8} {a a1 : Nat} {bad bad1 : Bool} {x : α} (g : α → β) (h : RdS p b a bad x a1 bad1) : RdS (ji p fun v => zBS (g v)) b a bad (g x) a1 bad1 :=
  h.bind (RdS.pure _ h.le)
theorem RdS.badly {α : Type} {p : List UInt8 → Nat → Option (α × Nat)} {b : List UInt8} {a a' : Nat} {bad : Bool} {x : α} (hc : bad = true) (ha : a' ≤ b.length) : RdS p b a bad x a' bad :=
  ⟨ha, id, fun v k h => (by rw [hc] at h; cases h), fun h => (by rw [hc] at h; cases h)⟩
theorem RdS.fail {α : Type} {p : List UInt8 → Nat → Option (α × Nat)} {b : List UInt8} {a a' : Nat} {bad : Bool} {x : α} (ha : a' ≤ b.length) (hp : bad = false → p b a = none) : RdS p b a bad x a' true :=
  ⟨ha, fun _ => rfl, fun v k h h' => (by rw [hp h] at h'; cases h'), fun _ _ => rfl⟩
theorem RdS.done {α : Type} {p : List UInt8 → Nat → Option (α × Nat)} {b : List UInt8} {a a' : Nat} {bad : Bool} {x : α} (ha : a' ≤ b.length) (hp : p b a = some (x, a')) : RdS p b a bad x a' bad :=
  ⟨ha, id, fun v k h h' => (by rw [hp] at h'; cases h'; exact ⟨h, rfl, rfl⟩), fun _ h' => (by rw [hp] at h'; cases h')⟩
theorem zID {S : List Nat} (o : Nat) (v : Value) (b : List UInt8) (a : Nat) (bad : Bool) (w : World) (hl : zd b.length) (ha : a ≤ b.length) (hin : Own w S [Res.row o 231 [v, Vj a, .bool bad]] w) (hb : Rd w S (Res.sl v b.length (b.map vb))) : Rets Tryz.prog 105 #[.pointer (some ⟨o, 0, none⟩)] w fun u_ w' => ∃ (n : Nat) (a' : Nat) (bad' : Bool), u_ = Vn n ∧ RdS zAv b a bad n a' bad' ∧ n < 18446744073709551616 ∧ Own w S [Res.row o 231 [v, Vj a', .bool bad']] w' := by
  refine zT Tryz.func105 rfl Tryz.ntmps105 hin ?_
  refine zB (zK rfl (zA (zQ (zB (zD rfl (zh rfl rfl (zJ (o := 2) rfl rfl (zM 0 (v := .bool bad) rfl rfl rfl rfl (zA (ja rfl (fun c1 => ?_) (fun c1 => ?_)))))))))))
  ·
   refine zB (zK rfl (zA ?_))
   exact zY (yD (v := Vn 0) rfl rfl (fun w' hw => ⟨0, a, bad, rfl, RdS.badly c1 ha, (by omega), hw⟩))
  ·
   refine zR (zQ (zk [0] rfl (by decide) (by kernel_rfl) (fun w' hw hS => zC 0 rfl (zU) hS (zC 1 rfl (zP rfl) hS (zC 2 rfl (zI (o := 0) rfl) hS (zC 3 rfl (zb 0 (v := v) rfl rfl rfl) hS (zC 4 rfl (zU) hS (zC 5 rfl (zP rfl) hS (zC 6 rfl (zI (o := 1) rfl) hS (zC 7 rfl (zb 0 (v := Vj a) rfl rfl rfl) hS (zN 8 rfl hw (zH rfl rfl (fun w' hw => ?_)))))))))))))
   refine (zKp v b a w' (by first | assumption | omega | (simp <;> omega) | (constructor <;> (first | omega | (simp only [zd]; omega) | (simp <;> omega)))) (by first | omega | (simp <;> omega)) (hw.rd0 hb)).mono ?_
   rintro _ w1 ⟨n1_, k2_, e3_, rfl, hf3_8, hO⟩
   refine (?_ : CL _ _ _ _ _ _ (Own w S [Res.row o 231 [v, Vj a, .bool bad]])) w1 (hw.frame0 hO)
   refine zE [0] rfl (by decide) (fun w' hw hS => zC 9 rfl (zU) hS (zC 10 rfl (yx (vs := [Vn n1_, Vj k2_, Vi e3_]) rfl rfl) hS (zC 11 rfl (yx (vs := [Vn n1_, Vj k2_, Vi e3_]) rfl rfl) hS (zC 12 rfl (yx (vs := [Vn n1_, Vj k2_, Vi e3_]) rfl rfl) hS (zC 13 rfl (ya) hS (zC 14 rfl (ya) hS (zC 15 rfl (ya) hS (zX ?_))))))))
   refine (?_ : C _ _ _ _ _ _ _ (Own w S [Res.row o 231 [v, Vj a, .bool bad]])) _ hw
   refine zQ (zB (zD rfl (kR rfl rfl rfl (zA (zf rfl (fun c2 => ?_) (fun c2 => ?_))))))
   ·
    refine zB (zD rfl (zh rfl rfl (zJ (o := 2) rfl rfl (zo (cs := [v, Vj a, .bool bad]) 0 rfl rfl rfl rfl rfl (zA (zB (zK rfl (zA ?_))))))))
    exact zY (yD (v := Vn 0) rfl rfl (fun w' hw => ⟨0, a, true, rfl, RdS.fail ha fun _ => hf3_8.no c2, (by omega), hw⟩))
   ·
    refine zR (zB (zD rfl (zD rfl (zh rfl rfl (zJ (o := 1) rfl rfl (zo (cs := [v, Vj a, .bool bad]) 0 rfl rfl rfl rfl rfl (zA (zB (zD rfl (zK rfl (zA ?_)))))))))))
    exact zY (yD (v := Vn n1_) rfl rfl (fun w' hw => ⟨n1_, k2_, bad, rfl, RdS.done (zCB (hf3_8.yes (by omega))).2.1 (hf3_8.yes (by omega)), (zCB (hf3_8.yes (by omega))).1, hw⟩))
def zAn (most : Nat) : List UInt8 → Nat → Option (Nat × Nat) := fun b a => (zAv b a).bind fun q => if most < q.1 then none else some q
theorem zBF {most : Nat} {b : List UInt8} {a n k : Nat} (h : zAn most b a = some (n, k)) : zAv b a = some (n, k) ∧ n ≤ most := by
  simp only [zAn, Option.bind_eq_some_iff] at h
  obtain ⟨q, h1, h2⟩ := h
  split at h2
  · cases h2
  · cases h2; exact ⟨h1, by omega⟩
theorem zDf {S : List Nat} (o : Nat) (v : Value) (b : List UInt8) (a : Nat) (bad : Bool) (most : Nat) (w : World) (hl : zd b.length) (ha : a ≤ b.length) (hm : most ≤ 1000000) (hin : Own w S [Res.row o 231 [v, Vj a, .bool bad]] w) (hb : Rd w S (Res.sl v b.length (b.map vb))) : Rets Tryz.prog 106 #[.pointer (some ⟨o, 0, none⟩), Vj most] w fun u_ w' => ∃ (n : Nat) (a' : Nat) (bad' : Bool), u_ = Vj n ∧ RdS (zAn most) b a bad n a' bad' ∧ n ≤ most ∧ Own w S [Res.row o 231 [v, Vj a', .bool bad']] w' := by
  refine zT Tryz.func106 rfl Tryz.ntmps106 hin ?_
  refine zB (zK rfl (zA (zB (zD rfl (zH rfl rfl (fun w' hw => (zID o v b a bad w' (by first | assumption | omega | (simp <;> omega) | (constructor <;> (first | omega | (simp only [zd]; omega) | (simp <;> omega)))) (by first | omega | (simp <;> omega)) (hw.give [0] rfl (by decide)) (hw.rdTo hb [0] rfl)).mono ?_))))))
  rintro _ w1 ⟨n1_, a'2_, bad'3_, rfl, hf1_1, hf1_1_1, hO⟩
  have hq := hf1_1.le
  refine (?_ : CL _ _ _ _ _ _ (Own w S [Res.row o 231 [v, Vj a'2_, .bool bad'3_]])) w1 (hw.frameL [0] rfl hO)
  refine zK rfl (zA (zQ (zB (zD rfl (zD rfl (xe (c := ((most : Nat) : Int)) (by kernel_rfl) rfl (y6 (by omega)) rfl ?_ (by kernel_rfl)))))))
  refine yo rfl rfl rfl (zA (zf rfl (fun c1 => ?_) (fun c1 => ?_)))
  ·
   refine zB (zD rfl (zh rfl rfl (zJ (o := 2) rfl rfl (zo (cs := [v, Vj a'2_, .bool bad'3_]) 0 rfl rfl rfl rfl rfl (zA (zB (zK rfl (zA ?_))))))))
   exact zY (yD (v := Vi 0) rfl rfl (fun w' hw => ⟨0, a'2_, true, rfl, RdS.fail hq fun h0 => (by cases hp : zAn most b a with | none => rfl | some q => obtain ⟨h1, h2⟩ := zBF hp; obtain ⟨_, h3, _⟩ := hf1_1.ok q.1 q.2 h0 h1; omega), (by omega), hw⟩))
  ·
   refine zR (zB (zD rfl (xe (by kernel_rfl) rfl (zy (by omega)) rfl ?_ (by kernel_rfl))))
   refine zK rfl (zA ?_)
   exact zY (yD (v := Vj n1_) rfl rfl (fun w' hw => ⟨n1_, a'2_, bad'3_, rfl, ⟨hq, hf1_1.st, fun u k h0 h => hf1_1.ok u k h0 (zBF h).1, fun h0 h => (by cases hp : zAv b a with | none => exact hf1_1.no h0 hp | some q => simp only [zAn, hp, Option.bind_some] at h; obtain ⟨_, h3, _⟩ := hf1_1.ok q.1 q.2 h0 hp; rw [if_neg (by omega)] at h; cases h)⟩, (by omega), hw⟩))
def pBytes (b : List UInt8) (a : Nat) : Option (List UInt8 × Nat) := (zAv b a).bind fun q => if b.length - q.2 < q.1 then none else some ((b.take (q.2 + q.1)).drop q.2, q.2 + q.1)
theorem zBd (v : Value) (l : List UInt8) (w : World) (hl : zd l.length) (hv : Rd w [] (Res.sl v l.length (l.map vb))) : Rets Tryz.prog 40 #[v] w fun u_ w' => ∃ (r : Value), u_ = r ∧ Own w [] [Res.vec 5 1 r l.length (l.map vb)] w' := by
  refine zT Tryz.func40 rfl Tryz.ntmps40 (Own.start w) ?_
  refine zB (zK rfl (zA (zQ (zB (zD rfl (zCc (len := l.length) (cs := (l.map vb)) (by kernel_rfl) rfl rfl (fun w' hw' => Own.rd hv hw') rfl (zA (ja rfl (fun c1 => ?_) (fun c1 => ?_)))))))))
  ·
   refine zB (zK rfl (zA ?_))
   exact zY (yD (v := .slice none 0 0) rfl rfl (fun w' hw => ⟨.slice none 0 0, rfl, by obtain ⟨_, h0⟩ := Sl.isNil hv.φ c1; rw [List.eq_nil_of_length_eq_zero h0]; exact zt hw 5 1⟩))
  ·
   refine zR (zB (z4 (e := 5) (sz := 1) (vs := []) (by kernel_rfl) rfl rfl (by simp [Value.cells]) (by decide) rfl (fun b5 => zD rfl (zG1 (l := ([] : List UInt8)) (l' := l) 0 (by kernel_rfl) rfl rfl rfl (fun w' hw' => Own.rd hv hw') (by first | omega | (simp <;> omega)) rfl (fun v7 => zK rfl (zA ?_))))))
   exact zY (yD (v := v7) rfl rfl (fun w' hw => ⟨v7, rfl, hw⟩))
def BytesPost (p : Option (List UInt8 × Nat)) (d : List UInt8) (k : Nat) (e : Int) : Prop := (e = 0 ∧ p = some (d, k)) ∨ (e ≠ 0 ∧ p = none)
end Go.Proofs.YtkkeknmkipkbmaaGreat