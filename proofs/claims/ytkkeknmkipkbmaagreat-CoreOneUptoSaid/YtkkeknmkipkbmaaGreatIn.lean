import Derived.Test.YtkkeknmkipkbmaaGreatRefW
set_option linter.unusedSectionVars false
set_option linter.unusedSimpArgs false
set_option linter.unusedVariables false
set_option maxRecDepth 10000
namespace Go.Proofs.YtkkeknmkipkbmaaGreat
open Go Go.Sc Go.Proofs
def beN (l : List UInt8) : Nat := l.foldl (fun n c => n * 256 + c.toNat) 0
theorem zCP (l : List UInt8) (c : UInt8) : beN (l ++ [c]) = beN l * 256 + c.toNat := by simp [beN]
theorem jH : ∀ (l : List UInt8) (n : Nat), l.foldl (fun n c => n * 256 + c.toNat) n < (n + 1) * 256 ^ l.length
  | [], n => by simp
  | c :: l, n => by
    have h := jH l (n * 256 + c.toNat)
    have hc := c.toNat_lt
    rw [List.foldl_cons, List.length_cons, Nat.pow_succ]
    refine Nat.lt_of_lt_of_le h ?_
    rw [show (n + 1) * (256 ^ l.length * 256) = ((n + 1) * 256) * 256 ^ l.length by rw [Nat.mul_assoc, Nat.mul_comm (256 ^ l.length)]]
    exact Nat.mul_le_mul_right _ (by omega)
theorem zCa (l : List UInt8) : beN l < 256 ^ l.length := by
  have := jH l 0
  simpa [beN] using this
theorem zBq {k : Nat} (h : k ≤ 8) : 256 ^ k ≤ 18446744073709551616 := by
  have := Nat.pow_le_pow_right (n := 256) (by omega) h
  simpa using this
theorem zA3 {k : Nat} (h : k ≤ 7) : 256 ^ k ≤ 72057594037927936 := by
  have := Nat.pow_le_pow_right (n := 256) (by omega) h
  simpa using this
theorem zD9 {m c : Nat} (h : c < 256) : (m * 256) ||| c = m * 256 + c := by
  have := Nat.two_pow_add_eq_or_of_lt (i := 8) (b := c) (by simpa using h) m
  rw [Nat.mul_comm]; simpa using this.symm
theorem zEa {m c : Nat} (hm : m < 72057594037927936) (h : c < 256) : IntKind.u64.wrap ((((((m * 256 : Nat) : Int) % 2 ^ IntKind.u64.bits).toNat ||| (((c : Nat) : Int) % 2 ^ IntKind.u64.bits).toNat : Nat)) : Int) = ((m * 256 + c : Nat) : Int) := by
  have e1 : (((m * 256 : Nat) : Int) % 2 ^ IntKind.u64.bits).toNat = m * 256 := by simp [IntKind.bits]; omega
  have e2 : (((c : Nat) : Int) % 2 ^ IntKind.u64.bits).toNat = c := by simp [IntKind.bits]; omega
  rw [e1, e2, zD9 h]
  exact yn (by omega)
theorem zDi {m : Nat} (hm : m < 72057594037927936) : IntKind.u64.wrap (((m : Nat) : Int) * 2 ^ (min (8 : Int).toNat IntKind.u64.bits)) = ((m * 256 : Nat) : Int) := by
  have e : (2 : Int) ^ (min (8 : Int).toNat IntKind.u64.bits) = 256 := by decide
  rw [e, yn (by omega)]; omega
def kr (l : List UInt8) : Option (Nat × Nat) :=
  if l.length = 0 then none else if 8 < (zU l 0).toNat ∨ (1 < l.length ∧ 0 < (zU l 0).toNat) ∧ (zU l 1).toNat = 0 then none else if l.length ≤ (zU l 0).toNat then none else some (beN ((l.take (1 + (zU l 0).toNat)).drop 1), 1 + (zU l 0).toNat)
def kb (b : List UInt8) (at_ : Nat) : Option (Nat × Nat) := (kr (b.drop at_)).map fun q => (q.1, at_ + q.2)
theorem zAp {l : List UInt8} {n k : Nat} (h : kr l = some (n, k)) : n < 18446744073709551616 ∧ k ≤ l.length ∧ 1 ≤ k := by
  unfold kr at h
  split at h
  · cases h
  · split at h
    · cases h
    · split at h
      · cases h
      · rename_i h1 h2 h3
        simp only [Option.some.injEq, Prod.mk.injEq] at h
        obtain ⟨rfl, rfl⟩ := h
        refine ⟨Nat.lt_of_lt_of_le (zCa _) (zBq (by simp; omega)), by omega, by omega⟩
theorem jX {b : List UInt8} {a n k : Nat} (h : kb b a = some (n, k)) : n < 18446744073709551616 ∧ k ≤ b.length ∧ a < k := by
  unfold kb at h
  rw [Option.map_eq_some_iff] at h
  obtain ⟨⟨n', k'⟩, h1, h2⟩ := h
  simp only [Prod.mk.injEq] at h2
  obtain ⟨rfl, rfl⟩ := h2
  obtain ⟨h3, h4, h5⟩ := zAp h1
  rw [List.length_drop] at h4
  exact ⟨h3, by omega, by omega⟩
theorem zCp (v : Value) (b : List UInt8) (a : Nat) (w : World) (hl : zT b.length) (hb : Rd w [] (Res.sl v b.length (b.map vb))) : Rets Tryz.prog 190 #[v, Vj a] w fun u_ w' => u_ = .bool (decide (a ≤ b.length)) ∧ Own w [] [] w' := by
  refine zR Tryz.func190 rfl Tryz.ntmps190 (Own.start w) ?_
  refine zB (zH rfl (zA (zB (zC rfl (xl rfl rfl rfl (zC rfl (yE (q := 0 ≤ ((a : Nat) : Int)) 4 2 [11, 10, 9, 8] (((a : Nat) : Int) ≤ ((b.length : Nat) : Int)) rfl rfl rfl rfl rfl rfl trivial rfl (fun h1_2 => ?_) (fun g1_7 => ?_))))))))
  ·
   refine zN rfl (gT h1_2) (zC rfl (zN rfl (gT h1_2) (zC rfl (zN rfl (gT h1_2) (zk (pR hb) rfl rfl (zN rfl (gT h1_2) (xX rfl rfl rfl ?_)))))))
   exact z7 rfl (fun _ hw => hw)
  refine zH rfl (zA ?_)
  exact zS (zx (v := .bool (decide ((0 ≤ ((a : Nat) : Int)) ∧ (((a : Nat) : Int) ≤ ((b.length : Nat) : Int))))) rfl rfl (fun w' hw => ⟨(by congr 1; exact decide_eq_decide.2 (by omega)), hw.drop⟩))
def NumPost (p : Option (Nat × Nat)) (n k : Nat) (e : Int) : Prop := (e = 0 ∧ p = some (n, k)) ∨ (e ≠ 0 ∧ n = 0 ∧ k = 0 ∧ p = none)
theorem NumPost.yes {p : Option (Nat × Nat)} {n k : Nat} {e : Int} (h : NumPost p n k e) (he : e = 0) : p = some (n, k) := by
  rcases h with h | h
  · exact h.2
  · exact absurd he h.1
theorem NumPost.no {p : Option (Nat × Nat)} {n k : Nat} {e : Int} (h : NumPost p n k e) (he : e ≠ 0) : p = none := by
  rcases h with h | h
  · exact absurd h.1 he
  · exact h.2.2.2
theorem zFC (v : Value) (b : List UInt8) (a : Nat) (w : World) (hl : zT b.length) (ha : a ≤ b.length) (hb : Rd w [] (Res.sl v b.length (b.map vb))) : Rets Tryz.prog 146 #[v, Vj a] w fun u_ w' => ∃ (n : Nat) (k : Nat) (e : Int), u_ = .tuple #[Vn n, Vj k, Vi e] ∧ NumPost (kb b a) n k e ∧ Own w [] [] w' := by
  have hk := (zU (b.drop a) 0).toNat_lt
  have hd : (b.drop a).length = b.length - a := by simp
  have hsub : (((b.drop a).take (1 + (zU (b.drop a) 0).toNat)).drop 1).length = min (1 + (zU (b.drop a) 0).toNat) (b.length - a) - 1 := by simp
  refine zR Tryz.func146 rfl Tryz.ntmps146 (Own.start w) ?_
  refine zB (zH rfl (zH rfl (zH rfl (zA (zQ (zB (zC rfl (zC rfl (zF rfl rfl (fun w' hw => (zCp v b a w' (by first | assumption | omega | (simp <;> omega) | (constructor <;> (first | omega | (simp only [zT]; omega) | (simp <;> omega)))) (hw.rd0 hb)).mono ?_))))))))))
  rintro _ w1 ⟨rfl, hO⟩
  refine (?_ : CL _ _ _ _ _ _ (Own w [] [])) w1 (hw.frame0 hO)
  refine xJ (q := a ≤ b.length) rfl rfl (zA (zD6 rfl (by omega) (zP (zB (zC rfl (zC rfl (jx (pR hb) 1 a b.length (by kernel_rfl) rfl ⟨_, rfl⟩ rfl (by omega) (by omega) rfl ?_)))))))
  have hs1_ := Rd.dropL_m (g := vb) (xs := b)  hb (l := a) (by omega)
  refine zH rfl (zA (zQ (zY (zB (zC rfl (zk (pR hs1_) rfl rfl (yk rfl rfl rfl (zH rfl (zA (zV rfl (fun c2 => ?_) (fun c2 => ?_)))))))))))
  ·
   refine zB (zH rfl (zH rfl (zH rfl (zA ?_))))
   exact zS (jz (v := Vn 0) (v' := Vi 0) (v'' := Vi 5) rfl rfl rfl rfl (fun w' hw => ⟨0, 0, 5, rfl, .inr ⟨by decide, rfl, rfl, by unfold kb kr; rw [if_pos (by omega)]; rfl⟩, hw.drop⟩))
  ·
   refine zB (zC rfl (z6 (pR hs1_) 1 0 rfl rfl rfl (by omega) rfl (kx (pR hs1_) 0 rfl (by omega) (by omega) rfl (yP rfl rfl rfl (zC rfl (yC (q := ((8 : Nat) : Int) < (((zU (b.drop a) 0).toNat : Nat) : Int)) 15 4 [42, 41, 40, 39, 38, 37, 36, 35, 34, 33, 32, 31, 30, 29, 28] (((1 < (((b.drop a).length : Nat) : Int)) ∧ (((0 : Nat) : Int) < (((zU (b.drop a) 0).toNat : Nat) : Int))) ∧ ((((zU (b.drop a) 1).toNat : Nat) : Int) = ((0 : Nat) : Int))) rfl rfl rfl rfl rfl rfl trivial rfl (fun h6_4 => ?_) (fun g6_20 => ?_)))))))
   ·
    refine zN rfl (gF h6_4) (zC rfl (zN rfl (gF h6_4) (zk (pR hs1_) rfl rfl (zN rfl (gF h6_4) (yP rfl rfl rfl (zN rfl (gF h6_4) (zC rfl (yE (q := 1 < (((b.drop a).length : Nat) : Int)) 4 8 [35, 34, 33, 32] (((0 : Nat) : Int) < (((zU (b.drop a) 0).toNat : Nat) : Int)) rfl rfl rfl rfl rfl rfl ⟨_, rfl, rfl, gF h6_4⟩ rfl (fun h6_8 => ?_) (fun g6_13 => ?_)))))))))
    ·
     refine zN rfl (gT h6_8) (zC rfl (zN rfl (gT h6_8) (z6 (pR hs1_) 1 0 rfl rfl rfl (by omega) rfl (zN rfl (gT h6_8) (kx (pR hs1_) 0 rfl (by omega) (by omega) rfl (zN rfl (gT h6_8) (yP rfl rfl rfl ?_)))))))
     exact z7 rfl (fun _ hw => hw)
    refine zN rfl (gF h6_4) (zC rfl (yE (q := (1 < (((b.drop a).length : Nat) : Int)) ∧ (((0 : Nat) : Int) < (((zU (b.drop a) 0).toNat : Nat) : Int))) 4 14 [41, 40, 39, 38] ((((zU (b.drop a) 1).toNat : Nat) : Int) = ((0 : Nat) : Int)) rfl rfl rfl rfl rfl rfl ⟨_, rfl, rfl, gF h6_4⟩ rfl (fun h6_14 => ?_) (fun g6_19 => ?_)))
    ·
     refine zN rfl (gT h6_14) (zC rfl (zN rfl (gT h6_14) (z6 (pR hs1_) 1 1 rfl rfl rfl (by omega) rfl (zN rfl (gT h6_14) (kx (pR hs1_) 1 rfl (by omega) (by omega) rfl (zN rfl (gT h6_14) (yk rfl rfl rfl ?_)))))))
     exact z7 rfl (fun _ hw => hw)
    exact z7 rfl (fun _ hw => hw)
   refine zH rfl (zA (zV rfl (fun c3 => ?_) (fun c3 => ?_)))
   ·
    refine zB (zH rfl (zH rfl (zH rfl (zA ?_))))
    exact zS (jz (v := Vn 0) (v' := Vi 0) (v'' := Vi 4) rfl rfl rfl rfl (fun w' hw => ⟨0, 0, 4, rfl, .inr ⟨by decide, rfl, rfl, by unfold kb kr; rw [if_neg (by omega), if_pos (by omega)]; rfl⟩, hw.drop⟩))
   ·
    refine zP (zB (zC rfl (z6 (pR hs1_) 1 0 rfl rfl rfl (by omega) rfl (kx (pR hs1_) 0 rfl (by omega) (by omega) rfl (yf (by kernel_rfl) rfl (zo (by omega)) rfl ?_ (by kernel_rfl))))))
    refine zH rfl (zA (zQ (zB (zC rfl (zk (pR hs1_) rfl rfl (zC rfl (xX rfl rfl rfl (zA (zV rfl (fun c4 => ?_) (fun c4 => ?_))))))))))
    ·
     refine zB (zH rfl (zH rfl (zH rfl (zA ?_))))
     exact zS (jz (v := Vn 0) (v' := Vi 0) (v'' := Vi 5) rfl rfl rfl rfl (fun w' hw => ⟨0, 0, 5, rfl, .inr ⟨by decide, rfl, rfl, by unfold kb kr; rw [if_neg (by omega), if_neg (by omega), if_pos (by omega)]; rfl⟩, hw.drop⟩))
    ·
     refine zP (zQ (zB (zC rfl (zC rfl (zu rfl rfl (zo (by omega)) rfl (jx (pR hs1_) 1 1 (1 + ((zU (b.drop a) 0).toNat)) (by kernel_rfl) rfl ⟨_, rfl⟩ ⟨_, rfl⟩ (by omega) (by omega) rfl ?_))))))
     have hs2_ := Rd.subL_m (g := vb) (xs := (b.drop a))  hs1_ (l := 1) (h := 1 + ((zU (b.drop a) 0).toNat)) (by omega) (by omega)
     refine zk (pR hs2_) rfl rfl (zC rfl (zA (zY ?_)))
     refine yM (fun (j : Nat) => [(1, Vj a), (4, Vn (beN ((((b.drop a).take (1 + (zU (b.drop a) 0).toNat)).drop 1).take j))), (8, Vj ((zU (b.drop a) 0).toNat)), (55, (yg (yg v a b.length 1) 1 (1 + ((zU (b.drop a) 0).toNat)) 1)), (56, Vj ((((b.drop a).take (1 + ((zU (b.drop a) 0).toNat))).drop 1).length)), (57, Vj j)]) (fun (j : Nat) => j ≤ (((b.drop a).take (1 + (zU (b.drop a) 0).toNat)).drop 1).length) (fun (j : Nat) => []) (fun (j : Nat) => (((b.drop a).take (1 + (zU (b.drop a) 0).toNat)).drop 1).length - j) (fun w' hw => ⟨0, ⟨rfl, rfl, rfl, rfl, rfl, rfl, trivial⟩, Nat.zero_le _, hw⟩) (fun j g hΦ => ?_)
     have hlt := zCa ((((b.drop a).take (1 + (zU (b.drop a) 0).toNat)).drop 1).take j)
     have hlj : ((((b.drop a).take (1 + (zU (b.drop a) 0).toNat)).drop 1).take j).length = j := by rw [List.length_take]; omega
     rw [hlj] at hlt
     refine zB (z4 rfl rfl rfl (zA (zQ (zV rfl (fun c5 => ?_) (fun c5 => ?_)))))
     ·
      have hp7 := zA3 (k := j) (by omega)
      have hcl := (zU (((b.drop a).take (1 + (zU (b.drop a) 0).toNat)).drop 1) j).toNat_lt
      refine zP (zQ (zY (zB (z6 (pR hs2_) 1 j rfl rfl rfl (by omega) rfl (kx (pR hs2_) j rfl (by omega) (by omega) rfl (zH rfl (zA (zZ (zC rfl (zEt (c := (((beN ((((b.drop a).take (1 + (zU (b.drop a) 0).toNat)).drop 1).take j)) * 256 : Nat) : Int)) rfl rfl (by decide) (zDi (by omega)) rfl (zC rfl (yf (by kernel_rfl) rfl (yn (by omega)) rfl ?_ (by kernel_rfl)))))))))))))
      refine zFc (c := (((beN ((((b.drop a).take (1 + (zU (b.drop a) 0).toNat)).drop 1).take j)) * 256 + (zU (((b.drop a).take (1 + (zU (b.drop a) 0).toNat)).drop 1) j).toNat : Nat) : Int)) rfl rfl (zEa (by omega) hcl) rfl (zH rfl (zA (zZ (zu rfl rfl (zo (by omega)) rfl (zC rfl ?_)))))
      exact zl (fun w' hw => ⟨j + 1, ⟨rfl, by rw [z5 (by omega), zCP]; rfl, rfl, rfl, rfl, rfl, trivial⟩, (by omega), hw, (by omega)⟩)
     ·
      refine z8 rfl (zB (zC rfl (zC rfl (zu rfl rfl (zo (by omega)) rfl (zC rfl (zu rfl rfl (zo (by omega)) rfl (zH rfl (zH rfl (zH rfl (zA ?_))))))))))
      exact zS (jz (v := Vn (beN ((((b.drop a).take (1 + (zU (b.drop a) 0).toNat)).drop 1).take j))) (v' := Vj ((a + 1) + ((zU (b.drop a) 0).toNat))) (v'' := Vi 0) rfl rfl rfl rfl (fun w' hw => ⟨(beN ((((b.drop a).take (1 + (zU (b.drop a) 0).toNat)).drop 1).take j)), (a + 1) + ((zU (b.drop a) 0).toNat), 0, rfl, .inl ⟨rfl, by unfold kb kr; rw [if_neg (by omega), if_neg (by omega), if_neg (by omega), List.take_of_length_le (i := j) (by omega)]; simp [Nat.add_assoc]⟩, hw.drop⟩))
structure RdS {α : Type} (p : List UInt8 → Nat → Option (α × Nat)) (b : List UInt8) (a : Nat) (bad : Bool) (x : α) (a' : Nat) (bad' : Bool) : Prop where
  le : a' ≤ b.length
  st : bad = true → bad' = true
  ok : ∀ v k, bad = false → p b a = some (v, k) → bad' = false ∧ x = v ∧ a' = k
  no : bad = false → p b a = none → bad' = true
theorem RdS.good {α : Type} {p : List UInt8 → Nat → Option (α × Nat)} {b : List UInt8} {a a' : Nat} {bad bad' : Bool} {x : α} (h : RdS p b a bad x a' bad') (hb : bad' = false) : bad = false ∧ p b a = some (x, a') := by
  have h0 : bad = false := by cases bad; rfl; have := h.st rfl; rw [this] at hb; cases hb
  refine ⟨h0, ?_⟩
  cases hp : p b a with
  | none => have := h.no h0 hp; rw [this] at hb; cases hb
  | some q => obtain ⟨v, k⟩ := q; obtain ⟨_, rfl, rfl⟩ := h.ok v k h0 hp; rfl
def kz {α : Type} (x : α) : List UInt8 → Nat → Option (α × Nat) := fun _ a => some (x, a)
def xm {α β : Type} (p : List UInt8 → Nat → Option (α × Nat)) (q : α → List UInt8 → Nat → Option (β × Nat)) : List UInt8 → Nat → Option (β × Nat) := fun b a => (p b a).bind fun r => q r.1 b r.2
theorem RdS.pure {α : Type} {b : List UInt8} {a : Nat} {bad : Bool} (x : α) (h : a ≤ b.length) : RdS (kz x) b a bad x a bad :=
  ⟨h, id, fun v k hb h => (by simp only [kz, Option.some.injEq, Prod.mk.injEq] at h; exact ⟨hb, h.1, h.2⟩), fun _ h => (by cases h)⟩
theorem RdS.bind {α β : Type} {p : List UInt8 → Nat → Option (α × Nat)} {q : α → List UInt8 → Nat → Option (β × Nat)} {b : List UInt8} {a a1 a2 : Nat} {bad bad1 bad2 : Bool} {x : α} {y : β}
    (h1 : RdS p b a bad x a1 bad1) (h2 : RdS (q x) b a1 bad1 y a2 bad2) : RdS (xm p q) b a bad y a2 bad2 := by
  refine ⟨h2.le, fun h => h2.st (h1.st h), fun v k hb h => ?_, fun hb h => ?_⟩
  · simp only [xm, Option.bind_eq_some_iff] at h
    obtain ⟨⟨u, j⟩, h3, h4⟩ := h
    obtain ⟨e1, rfl, rfl⟩ := h1.ok u j hb h3
    exact h2.ok v k e1 h4
  · cases hp : p b a with
    | none => exact h2.st (h1.no hb hp)
    | some r =>
      obtain ⟨u, j⟩ := r
      obtain ⟨e1, rfl, rfl⟩ := h1.ok u j hb hp
      simp only [xm, hp, Option.bind_some] at h
      exact h2.no e1 h
theorem RdS.map {α β : Type} {p : List UInt8 → Nat → Option (α × Nat)} {b : List UInt8} {a a1 : Nat} {bad bad1 : Bool} {x : α} (g : α → β) (h : RdS p b a bad x a1 bad1) : RdS (xm p fun v => kz (g v)) b a bad (g x) a1 bad1 :=
  h.bind (RdS.pure _ h.le)
theorem RdS.badly {α : Type} {p : List UInt8 → Nat → Option (α × Nat)} {b : List UInt8} {a a' : Nat} {bad : Bool} {x : α} (hc : bad = true) (ha : a' ≤ b.length) : RdS p b a bad x a' bad :=
  ⟨ha, id, fun v k h => (by rw [hc] at h; cases h), fun h => (by rw [hc] at h; cases h)⟩
theorem RdS.fail {α : Type} {p : List UInt8 → Nat → Option (α × Nat)} {b : List UInt8} {a a' : Nat} {bad : Bool} {x : α} (ha : a' ≤ b.length) (hp : bad = false → p b a = none) : RdS p b a bad x a' true :=
  ⟨ha, fun _ => rfl, fun v k h h' => (by rw [hp h] at h'; cases h'), fun _ _ => rfl⟩
theorem RdS.done {α : Type} {p : List UInt8 → Nat → Option (α × Nat)} {b : List UInt8} {a a' : Nat} {bad : Bool} {x : α} (ha : a' ≤ b.length) (hp : p b a = some (x, a')) : RdS p b a bad x a' bad :=
  ⟨ha, id, fun v k h h' => (by rw [hp] at h'; cases h'; exact ⟨h, rfl, rfl⟩), fun _ h' => (by rw [hp] at h'; cases h')⟩
theorem zDJ {S : List Nat} (o : Nat) (v : Value) (b : List UInt8) (a : Nat) (bad : Bool) (w : World) (hl : zT b.length) (ha : a ≤ b.length) (hin : Own w S [Res.row o 231 [v, Vj a, .bool bad]] w) (hb : Rd w S (Res.sl v b.length (b.map vb))) : Rets Tryz.prog 105 #[.pointer (some ⟨o, 0, none⟩)] w fun u_ w' => ∃ (n : Nat) (a' : Nat) (bad' : Bool), u_ = Vn n ∧ RdS kb b a bad n a' bad' ∧ n < 18446744073709551616 ∧ Own w S [Res.row o 231 [v, Vj a', .bool bad']] w' := by
  refine zR Tryz.func105 rfl Tryz.ntmps105 hin ?_
  refine zB (zH rfl (zA (zQ (zB (zC rfl (za rfl rfl (zL (o := 2) rfl rfl (zI 0 (v := .bool bad) rfl rfl rfl rfl (zA (zCc rfl (fun c1 => ?_) (fun c1 => ?_)))))))))))
  ·
   refine zB (zH rfl (zA ?_))
   exact zS (zx (v := Vn 0) rfl rfl (fun w' hw => ⟨0, a, bad, rfl, RdS.badly c1 ha, (by omega), hw⟩))
  ·
   refine zP (zQ (zc [0] rfl (by decide) (by kernel_rfl) (fun w' hw hS => zD 0 rfl (zX) hS (zD 1 rfl (zM rfl) hS (zD 2 rfl (zG (o := 0) rfl) hS (zD 3 rfl (zi 0 (v := v) rfl rfl rfl) hS (zD 4 rfl (zX) hS (zD 5 rfl (zM rfl) hS (zD 6 rfl (zG (o := 1) rfl) hS (zD 7 rfl (zi 0 (v := Vj a) rfl rfl rfl) hS (zK 8 rfl hw (zF rfl rfl (fun w' hw => ?_)))))))))))))
   refine (zFC v b a w' (by first | assumption | omega | (simp <;> omega) | (constructor <;> (first | omega | (simp only [zT]; omega) | (simp <;> omega)))) (by first | omega | (simp <;> omega)) (hw.rd0 hb)).mono ?_
   rintro _ w1 ⟨n1_, k2_, e3_, rfl, hf3_8, hO⟩
   refine (?_ : CL _ _ _ _ _ _ (Own w S [Res.row o 231 [v, Vj a, .bool bad]])) w1 (hw.frame0 hO)
   refine zE [0] rfl (by decide) (fun w' hw hS => zD 9 rfl (zX) hS (zD 10 rfl (yu (vs := [Vn n1_, Vj k2_, Vi e3_]) rfl rfl) hS (zD 11 rfl (yu (vs := [Vn n1_, Vj k2_, Vi e3_]) rfl rfl) hS (zD 12 rfl (yu (vs := [Vn n1_, Vj k2_, Vi e3_]) rfl rfl) hS (zD 13 rfl (yU) hS (zD 14 rfl (yU) hS (zD 15 rfl (yU) hS (zW ?_))))))))
   refine (?_ : C _ _ _ _ _ _ _ (Own w S [Res.row o 231 [v, Vj a, .bool bad]])) _ hw
   refine zQ (zB (zC rfl (yi rfl rfl rfl (zA (zV rfl (fun c2 => ?_) (fun c2 => ?_))))))
   ·
    refine zB (zC rfl (za rfl rfl (zL (o := 2) rfl rfl (zf (cs := [v, Vj a, .bool bad]) 0 rfl rfl rfl rfl rfl (zA (zB (zH rfl (zA ?_))))))))
    exact zS (zx (v := Vn 0) rfl rfl (fun w' hw => ⟨0, a, true, rfl, RdS.fail ha fun _ => hf3_8.no c2, (by omega), hw⟩))
   ·
    refine zP (zB (zC rfl (zC rfl (za rfl rfl (zL (o := 1) rfl rfl (zf (cs := [v, Vj a, .bool bad]) 0 rfl rfl rfl rfl rfl (zA (zB (zC rfl (zH rfl (zA ?_)))))))))))
    exact zS (zx (v := Vn n1_) rfl rfl (fun w' hw => ⟨n1_, k2_, bad, rfl, RdS.done (jX (hf3_8.yes (by omega))).2.1 (hf3_8.yes (by omega)), (jX (hf3_8.yes (by omega))).1, hw⟩))
def kW (most : Nat) : List UInt8 → Nat → Option (Nat × Nat) := fun b a => (kb b a).bind fun q => if most < q.1 then none else some q
theorem jR {most : Nat} {b : List UInt8} {a n k : Nat} (h : kW most b a = some (n, k)) : kb b a = some (n, k) ∧ n ≤ most := by
  simp only [kW, Option.bind_eq_some_iff] at h
  obtain ⟨q, h1, h2⟩ := h
  split at h2
  · cases h2
  · cases h2; exact ⟨h1, by omega⟩
theorem zAH {S : List Nat} (o : Nat) (v : Value) (b : List UInt8) (a : Nat) (bad : Bool) (most : Nat) (w : World) (hl : zT b.length) (ha : a ≤ b.length) (hm : most ≤ 1000000) (hin : Own w S [Res.row o 231 [v, Vj a, .bool bad]] w) (hb : Rd w S (Res.sl v b.length (b.map vb))) : Rets Tryz.prog 106 #[.pointer (some ⟨o, 0, none⟩), Vj most] w fun u_ w' => ∃ (n : Nat) (a' : Nat) (bad' : Bool), u_ = Vj n ∧ RdS (kW most) b a bad n a' bad' ∧ n ≤ most ∧ Own w S [Res.row o 231 [v, Vj a', .bool bad']] w' := by
  refine zR Tryz.func106 rfl Tryz.ntmps106 hin ?_
  refine zB (zH rfl (zA (zB (zC rfl (zF rfl rfl (fun w' hw => (zDJ o v b a bad w' (by first | assumption | omega | (simp <;> omega) | (constructor <;> (first | omega | (simp only [zT]; omega) | (simp <;> omega)))) (by first | omega | (simp <;> omega)) (hw.give [0] rfl (by decide)) (hw.rdTo hb [0] rfl)).mono ?_))))))
  rintro _ w1 ⟨n1_, a'2_, bad'3_, rfl, hf1_1, hf1_1_1, hO⟩
  have hq := hf1_1.le
  refine (?_ : CL _ _ _ _ _ _ (Own w S [Res.row o 231 [v, Vj a'2_, .bool bad'3_]])) w1 (hw.frameL [0] rfl hO)
  refine zH rfl (zA (zQ (zB (zC rfl (zC rfl (yf (c := ((most : Nat) : Int)) (by kernel_rfl) rfl (yn (by omega)) rfl ?_ (by kernel_rfl)))))))
  refine yP rfl rfl rfl (zA (zV rfl (fun c1 => ?_) (fun c1 => ?_)))
  ·
   refine zB (zC rfl (za rfl rfl (zL (o := 2) rfl rfl (zf (cs := [v, Vj a'2_, .bool bad'3_]) 0 rfl rfl rfl rfl rfl (zA (zB (zH rfl (zA ?_))))))))
   exact zS (zx (v := Vi 0) rfl rfl (fun w' hw => ⟨0, a'2_, true, rfl, RdS.fail hq fun h0 => (by cases hp : kW most b a with | none => rfl | some q => obtain ⟨h1, h2⟩ := jR hp; obtain ⟨_, h3, _⟩ := hf1_1.ok q.1 q.2 h0 h1; omega), (by omega), hw⟩))
  ·
   refine zP (zB (zC rfl (yf (by kernel_rfl) rfl (zo (by omega)) rfl ?_ (by kernel_rfl))))
   refine zH rfl (zA ?_)
   exact zS (zx (v := Vj n1_) rfl rfl (fun w' hw => ⟨n1_, a'2_, bad'3_, rfl, ⟨hq, hf1_1.st, fun u k h0 h => hf1_1.ok u k h0 (jR h).1, fun h0 h => (by cases hp : kb b a with | none => exact hf1_1.no h0 hp | some q => simp only [kW, hp, Option.bind_some] at h; obtain ⟨_, h3, _⟩ := hf1_1.ok q.1 q.2 h0 hp; rw [if_neg (by omega)] at h; cases h)⟩, (by omega), hw⟩))
def pBytes (b : List UInt8) (a : Nat) : Option (List UInt8 × Nat) := (kb b a).bind fun q => if b.length - q.2 < q.1 then none else some ((b.take (q.2 + q.1)).drop q.2, q.2 + q.1)
theorem kB (v : Value) (l : List UInt8) (w : World) (hl : zT l.length) (hv : Rd w [] (Res.sl v l.length (l.map vb))) : Rets Tryz.prog 40 #[v] w fun u_ w' => ∃ (r : Value), u_ = r ∧ Own w [] [Res.vec 5 1 r l.length (l.map vb)] w' := by
  refine zR Tryz.func40 rfl Tryz.ntmps40 (Own.start w) ?_
  refine zB (zH rfl (zA (zQ (zB (zC rfl (j6 (len := l.length) (cs := (l.map vb)) (by kernel_rfl) rfl rfl (fun w' hw' => Own.rd hv hw') rfl (zA (zCc rfl (fun c1 => ?_) (fun c1 => ?_)))))))))
  ·
   refine zB (zH rfl (zA ?_))
   exact zS (zx (v := .slice none 0 0) rfl rfl (fun w' hw => ⟨.slice none 0 0, rfl, by obtain ⟨_, h0⟩ := Sl.isNil hv.φ c1; rw [List.eq_nil_of_length_eq_zero h0]; exact zz hw 5 1⟩))
  ·
   refine zP (zB (zy (e := 5) (sz := 1) (vs := []) (by kernel_rfl) rfl rfl (by simp [Value.cells]) (by decide) rfl (fun b5 => zC rfl (zAh (l := ([] : List UInt8)) (l' := l) 0 (by kernel_rfl) rfl rfl rfl (fun w' hw' => Own.rd hv hw') (by first | omega | (simp <;> omega)) rfl (fun v7 => zH rfl (zA ?_))))))
   exact zS (zx (v := v7) rfl rfl (fun w' hw => ⟨v7, rfl, hw⟩))
def BytesPost (p : Option (List UInt8 × Nat)) (d : List UInt8) (k : Nat) (e : Int) : Prop := (e = 0 ∧ p = some (d, k)) ∨ (e ≠ 0 ∧ p = none)
end Go.Proofs.YtkkeknmkipkbmaaGreat