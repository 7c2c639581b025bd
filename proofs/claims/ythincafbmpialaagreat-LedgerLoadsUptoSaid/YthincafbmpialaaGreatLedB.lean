import Derived.Test.YthincafbmpialaaGreatLedA
import Derived.Test.YthincafbmpialaaGreatLedRt
set_option linter.unusedSectionVars false
set_option linter.unusedSimpArgs false
set_option linter.unusedVariables false
set_option maxRecDepth 10000
namespace Go.Proofs.YthincafbmpialaaGreat
open Go Go.Sc Go.Proofs
def zFH (x : BudD) : List UInt8 := dat (zFB x.key) ++ yO (u64 x.amount)
def zEe (x : LeaD) : List UInt8 := yO x.id ++ yO x.session ++ dat (zFB x.key) ++ yO (u64 x.amount) ++ yO (u64 x.until_)
def zDh (idx : Nat) (now : Int) (cnt : Nat) (bs : List BudD) (i : Nat) : List UInt8 := yO idx ++ yO (u64 now) ++ yO cnt ++ yO bs.length ++ (bs.take i).flatMap zFH
def zDs (idx : Nat) (now : Int) (cnt : Nat) (bs : List BudD) (ls : List LeaD) (i : Nat) : List UInt8 := zDh idx now cnt bs bs.length ++ yO ls.length ++ (ls.take i).flatMap zEe
def zD0 (idx : Nat) (now : Int) (cnt : Nat) (bs : List BudD) (ls : List LeaD) (rs : List RepD) (i : Nat) : List UInt8 := zDs idx now cnt bs ls ls.length ++ (rs.take i).flatMap fun r => dat r.enc
def xu (idx : Nat) (now : Int) (cnt : Nat) (bs : List BudD) (ls : List LeaD) (rs : List RepD) : List UInt8 := zD0 idx now cnt bs ls rs rs.length
theorem zAU {α : Type} {f : α → List UInt8} {c : Nat} : ∀ {l : List α}, (∀ x ∈ l, (f x).length ≤ c) → (l.flatMap f).length ≤ c * l.length
  | [], _ => by simp
  | x :: l, h => by
    have h1 := h x List.mem_cons_self
    have h2 := zAU (l := l) fun y hy => h y (List.mem_cons_of_mem _ hy)
    simp only [List.flatMap_cons, List.length_append, List.length_cons, Nat.mul_add]
    omega
theorem zIh {x : BudD} (h : yZ x.key) : (zFH x).length ≤ 82 := by
  have h1 := xL (xM x.amount)
  have h2 : (yO x.key.size).length ≤ 9 := xL (by have := h.2; omega)
  have := h.2
  simp only [zFH, dat, List.length_append, jE]; omega
theorem zHh {x : LeaD} (h : yZ x.key) (hi : x.id < 18446744073709551616) (hs : x.session < 18446744073709551616) : (zEe x).length ≤ 109 := by
  have h1 := xL (xM x.amount)
  have h2 : (yO x.key.size).length ≤ 9 := xL (by have := h.2; omega)
  have h3 := xL (xM x.until_)
  have h4 := xL hi
  have h5 := xL hs
  have := h.2
  simp only [zEe, dat, List.length_append, jE]; omega
theorem zFU {x : RepD} (h : x.wf) : (dat x.enc).length ≤ 63 := by
  have h1 : x.enc.length ≤ 54 := xv (ns := [x.session, x.seq, u64 x.e, x.lease, u64 x.amount, u64 x.until_]) (fun n hn => by
    simp only [List.mem_cons, List.not_mem_nil, or_false] at hn
    rcases hn with rfl | rfl | rfl | rfl | rfl | rfl
    · exact h.session
    · exact h.seq
    · exact xM _
    · exact h.lease
    · exact xM _
    · exact xM _)
  have h2 : (yO x.enc.length).length ≤ 9 := xL (by omega)
  simp only [dat, List.length_append]; omega
theorem zDP {v : Value} {k : ByteArray} (h : yZ k) : (yJ [(v, k.data.toList)]).length ≤ 73 := by
  have h2 : (yO k.size).length ≤ 9 := xL (by have := h.2; omega)
  have h3 : k.data.toList.length = k.size := jE k
  have := h.2
  simp only [yJ, List.flatMap_cons, List.flatMap_nil, List.append_nil, dat, List.length_append, h3]; omega
structure SOk (idx : Nat) (now : Int) (cnt : Nat) (bs : List BudD) (ls : List LeaD) (rs : List RepD) : Prop where
  q : QOk now cnt bs ls
  s : QSrt bs
  c : COk rs
  w : ∀ r ∈ rs, r.wf
  i : idx < 18446744073709551616
  n : cnt < 18446744073709551616
  a : ∀ l ∈ ls, l.session < 18446744073709551616
section
variable {idx : Nat} {now : Int} {cnt : Nat} {bs : List BudD} {ls : List LeaD} {rs : List RepD}
theorem SOk.lea (h : SOk idx now cnt bs ls rs) : ∀ x ∈ ls, yZ x.key ∧ x.id < 18446744073709551616 ∧ x.session < 18446744073709551616 ∧ xY x.amount ∧ xY x.until_ := fun x hx => by
  have h0 := h.q.lok x hx
  have h1 := h.q.sums x.key
  have h2 := jg (k := x.key) (List.singleton_sublist.2 hx) h.q.pos
  have h3 := h.q.time
  have h4 := h.n
  simp only [ym, if_true] at h2
  refine ⟨h0.2.2.2.2.2.2, by omega, h.a x hx, ?_, ?_⟩ <;> (unfold xY; omega)
theorem zEY (h : SOk idx now cnt bs ls rs) (i : Nat) : (zDh idx now cnt bs i).length ≤ 5300 := by
  have h1 := xL h.i
  have h2 := xL (xM now)
  have h3 := xL h.n
  have hb := h.q.blen
  have h4 : (yO bs.length).length ≤ 9 := xL (by omega)
  have h5 := zAU (l := bs.take i) (f := zFH) (c := 82) fun x hx => zIh (h.q.bpos x (List.mem_of_mem_take hx)).2.2
  have h6 : (bs.take i).length ≤ 64 := by rw [List.length_take]; omega
  simp only [zDh, List.length_append]; omega
theorem zES (h : SOk idx now cnt bs ls rs) (i : Nat) : (zDs idx now cnt bs ls i).length ≤ 19300 := by
  have h1 := zEY h bs.length
  have hb := h.q.llen
  have h4 : (yO ls.length).length ≤ 9 := xL (by omega)
  have h5 := zAU (l := ls.take i) (f := zEe) (c := 109) fun x hx => by
    have k := h.lea x (List.mem_of_mem_take hx)
    exact zHh k.1 k.2.1 k.2.2.1
  have h6 : (ls.take i).length ≤ 128 := by rw [List.length_take]; omega
  simp only [zDs, List.length_append]; omega
theorem zEh (h : SOk idx now cnt bs ls rs) (i : Nat) : (zD0 idx now cnt bs ls rs i).length ≤ 21400 := by
  have h1 := zES h ls.length
  have hb := h.c.len
  have h5 := zAU (l := rs.take i) (f := fun r => dat r.enc) (c := 63) fun x hx => zFU (h.w x (List.mem_of_mem_take hx))
  have h6 : (rs.take i).length ≤ 32 := by rw [List.length_take]; omega
  simp only [zD0, List.length_append]; omega
theorem zGy {i : Nat} (hi : i < bs.length) : zDh idx now cnt bs (i + 1) = zDh idx now cnt bs i ++ zFH (zI bs i) := by
  simp only [zDh, yB hi, List.flatMap_append, List.flatMap_cons, List.flatMap_nil, List.append_nil, List.append_assoc]
theorem zG6 {i : Nat} (hi : i < ls.length) : zDs idx now cnt bs ls (i + 1) = zDs idx now cnt bs ls i ++ zEe (zI ls i) := by
  simp only [zDs, yB hi, List.flatMap_append, List.flatMap_cons, List.flatMap_nil, List.append_nil, List.append_assoc]
theorem zG7 {i : Nat} (hi : i < rs.length) : zD0 idx now cnt bs ls rs (i + 1) = zD0 idx now cnt bs ls rs i ++ dat (zI rs i).enc := by
  simp only [zD0, yB hi, List.flatMap_append, List.flatMap_cons, List.flatMap_nil, List.append_nil, List.append_assoc]
def zCP : x2 BudD := yE y0 fun k => yE yW fun a => yk ⟨jv k, yT a⟩
def zBx : x2 LeaD := yE yW fun i => yE yW fun s => yE y0 fun k => yE yW fun a => yE yW fun u => yk ⟨i, s, jv k, yT a, yT u⟩
def kd : x2 RepD := fun b a => (y0 b a).bind fun q => (jQ q.1).map fun r => (r, q.2)
structure LedX where
  idx : Nat
  now : Int
  cnt : Nat
  bs : List BudD
  ls : List LeaD
  rs : List RepD
def zMp (r : Nat) : x2 LedX := yE yW fun i => yE yW fun t => yE yW fun c => yE (yE yW (yv zCP)) fun bs => yE (yE yW (yv zBx)) fun ls => yE (yv kd r) fun rs => yk ⟨i, yT t, c, bs, ls, rs⟩
def LedRead (d : List UInt8) (x : LedX) : Prop := ∃ r, zMp r d 0 = some (x, d.length)
end
def Cn {α : Type} (p : x2 α) (enc : α → List UInt8) : Prop := ∀ b a x k, a ≤ b.length → p b a = some (x, k) → (a ≤ k ∧ k ≤ b.length) ∧ (b.take k).drop a = enc x
theorem xF {b : List UInt8} {a j k : Nat} (h1 : a ≤ j) (h2 : j ≤ k) (h3 : k ≤ b.length) : (b.take k).drop a = (b.take j).drop a ++ (b.take k).drop j := by
  have e : (b.take k) = b.take j ++ (b.take k).drop j := by
    have := (List.take_append_drop j (b.take k)).symm
    rwa [List.take_take, Nat.min_eq_left h2] at this
  calc (b.take k).drop a = (b.take j ++ (b.take k).drop j).drop a := by rw [← e]
    _ = _ := by rw [List.drop_append_of_le_length (by rw [List.length_take]; omega)]
theorem Cn.rep {α : Type} {p : x2 α} {enc : α → List UInt8} (h : Cn p enc) : ∀ n b a l k, a ≤ b.length → yv p n b a = some (l, k) → ((a ≤ k ∧ k ≤ b.length) ∧ (b.take k).drop a = l.flatMap enc) ∧ l.length = n
  | 0, b, a, l, k, ha, hp => by
    simp only [yv, yk, Option.some.injEq, Prod.mk.injEq] at hp
    obtain ⟨rfl, rfl⟩ := hp
    exact ⟨⟨⟨Nat.le_refl _, ha⟩, by simp⟩, rfl⟩
  | n + 1, b, a, l, k, ha, hp => by
    obtain ⟨l', j, e1, hp⟩ := ze hp
    obtain ⟨x, i, e2, hp⟩ := ze hp
    simp only [yk, Option.some.injEq, Prod.mk.injEq] at hp
    obtain ⟨rfl, rfl⟩ := hp
    obtain ⟨⟨⟨a1, a2⟩, a3⟩, a4⟩ := Cn.rep h n b a l' j ha e1
    obtain ⟨⟨b1, b2⟩, b3⟩ := h b j x i a2 e2
    exact ⟨⟨⟨by omega, b2⟩, by rw [xF a1 b1 b2, a3, b3]; simp⟩, by simp [a4]⟩
theorem zII : ∀ l : List UInt8, be (beN l) l.length = l
  | [] => rfl
  | c :: l => by
    have h1 := zCM l
    have hp : 0 < 256 ^ l.length := Nat.pow_pos (by omega)
    have hc := c.toNat_lt
    rw [List.length_cons, be, zKJ, zFV]
    have e1 : (c.toNat * 256 ^ l.length + beN l) / 256 ^ l.length = c.toNat := by
      rw [Nat.mul_comm, Nat.mul_add_div hp, Nat.div_eq_of_lt h1]; omega
    have e2 : be (c.toNat * 256 ^ l.length + beN l) l.length = be (beN l) l.length := by
      have key : ∀ (k m n : Nat), k ≤ l.length → be (m * 256 ^ l.length + n) k = be n k := by
        intro k
        induction k with
        | zero => intros; rfl
        | succ k ih =>
          intro m n hk
          rw [be, be, ih m n (by omega), zKJ]
          congr 1
          have : 256 ^ l.length = 256 ^ k * (256 * 256 ^ (l.length - k - 1)) := by
            rw [← Nat.mul_assoc, ← Nat.pow_succ, ← Nat.pow_add]; congr 1; omega
          rw [this, show m * (256 ^ k * (256 * 256 ^ (l.length - k - 1))) + n = 256 ^ k * (m * 256 ^ (l.length - k - 1) * 256) + n by rw [show m * (256 ^ k * (256 * 256 ^ (l.length - k - 1))) = 256 ^ k * (m * 256 ^ (l.length - k - 1) * 256) by ac_rfl], Nat.mul_add_div (Nat.pow_pos (by omega))]
          apply UInt8.toNat_inj.1
          simp
      exact key _ _ _ (Nat.le_refl _)
    rw [e1, e2, zII l]; simp
theorem zEl {l : List UInt8} (h : l = [] ∨ zI l 0 ≠ 0) : yf (beN l) = l.length := by
  rcases l with _ | ⟨c, l⟩
  · rfl
  · have hc : c ≠ 0 := by rcases h with h | h; cases h; exact h
    have hc0 : 0 < c.toNat := Nat.pos_of_ne_zero fun q => hc (UInt8.toNat_inj.1 q)
    have hp : 0 < 256 ^ l.length := Nat.pow_pos (by omega)
    have h1 := zCM (c :: l)
    have h2 : 256 ^ l.length ≤ beN (c :: l) := by rw [zFV]; have := Nat.mul_le_mul_right (256 ^ l.length) hc0; omega
    have h3 := zFj (beN (c :: l))
    have h4 : beN (c :: l) < 2 ^ (8 * (l.length + 1)) := by rw [zKJ]; exact h1
    have h5 := xc h4
    have h6 : yf (beN (c :: l)) ≤ l.length + 1 := by unfold yf; omega
    have h7 : l.length < yf (beN (c :: l)) := by
      refine Nat.lt_of_not_le fun q => ?_
      have := Nat.pow_le_pow_right (n := 256) (by omega) q
      omega
    rw [List.length_cons]; omega
theorem xp : Cn yW yO := fun b a x k ha hp => by
  have hs := zz hp
  refine ⟨⟨by omega, hs.2.1⟩, ?_⟩
  unfold yW at hp
  rw [Option.map_eq_some_iff] at hp
  obtain ⟨⟨n, m⟩, h1, h2⟩ := hp
  simp only [Prod.mk.injEq] at h2
  obtain ⟨rfl, rfl⟩ := h2
  have e : (b.take (a + m)).drop a = (b.drop a).take m := by rw [List.drop_take]; congr 1; omega
  rw [e]
  generalize b.drop a = l at h1
  unfold jw at h1
  split at h1
  · cases h1
  · rename_i h0
    split at h1
    · cases h1
    · rename_i h2
      split at h1
      · cases h1
      · rename_i h3
        simp only [Option.some.injEq, Prod.mk.injEq] at h1
        obtain ⟨rfl, rfl⟩ := h1
        rcases l with _ | ⟨c, l⟩
        · exact absurd rfl h0
        · have e0 : zI (c :: l) 0 = c := rfl
          rw [e0] at h2 h3 ⊢
          have e1 : ((c :: l).take (1 + c.toNat)) = c :: l.take c.toNat := by rw [Nat.add_comm]; rfl
          rw [e1]
          show c :: l.take c.toNat = yO (beN (l.take c.toNat))
          simp only [List.length_cons] at h3
          have hl : (l.take c.toNat).length = c.toNat := by rw [List.length_take]; omega
          have hb : yf (beN (l.take c.toNat)) = c.toNat := by
            rw [zEl, hl]
            rcases Nat.eq_zero_or_pos c.toNat with hz | hz
            · left; rw [hz]; rfl
            · right; intro q
              rcases l with _ | ⟨d, l⟩
              · simp at h3; omega
              · obtain ⟨c', hc'⟩ : ∃ c', c.toNat = c' + 1 := ⟨c.toNat - 1, by omega⟩
                rw [hc'] at q
                have hd : d = 0 := q
                exact h2 (.inr ⟨⟨by simp, hz⟩, by show d.toNat = 0; rw [hd]; rfl⟩)
          unfold yO
          rw [hb]
          have := zII (l.take c.toNat)
          rw [hl] at this
          rw [this]; simp
theorem zCu : Cn y0 dat := fun b a x k ha hp => by
  simp only [y0, Option.bind_eq_some_iff] at hp
  obtain ⟨⟨n, j⟩, h1, h2⟩ := hp
  obtain ⟨⟨a1, a2⟩, a3⟩ := xp b a n j ha h1
  dsimp only at h2
  split at h2
  · cases h2
  · simp only [Option.some.injEq, Prod.mk.injEq] at h2
    obtain ⟨rfl, rfl⟩ := h2
    refine ⟨⟨by omega, by omega⟩, ?_⟩
    rw [xF a1 (by omega) (by omega), a3]
    have : ((b.take (j + n)).drop j).length = n := by rw [List.length_drop, List.length_take]; omega
    simp only [dat, this]
theorem cn_bud : Cn zCP zFH := fun b a x k ha hp => by
  obtain ⟨d, j, e1, hp⟩ := ze hp
  obtain ⟨m, i, e2, hp⟩ := ze hp
  simp only [yk, Option.some.injEq, Prod.mk.injEq] at hp
  obtain ⟨rfl, rfl⟩ := hp
  obtain ⟨⟨a1, a2⟩, a3⟩ := zCu b a d j ha e1
  obtain ⟨⟨b1, b2⟩, b3⟩ := xp b j m i a2 e2
  refine ⟨⟨by omega, b2⟩, ?_⟩
  rw [xF a1 b1 b2, a3, b3]
  simp only [zFH, zAW (zz e2).1]
  rfl
theorem cn_lea : Cn zBx zEe := fun b a x k ha hp => by
  obtain ⟨i, j1, e1, hp⟩ := ze hp
  obtain ⟨s, j2, e2, hp⟩ := ze hp
  obtain ⟨d, j3, e3, hp⟩ := ze hp
  obtain ⟨m, j4, e4, hp⟩ := ze hp
  obtain ⟨u, j5, e5, hp⟩ := ze hp
  simp only [yk, Option.some.injEq, Prod.mk.injEq] at hp
  obtain ⟨rfl, rfl⟩ := hp
  obtain ⟨⟨a1, a2⟩, a3⟩ := xp b a i j1 ha e1
  obtain ⟨⟨b1, b2⟩, b3⟩ := xp b j1 s j2 a2 e2
  obtain ⟨⟨c1, c2⟩, c3⟩ := zCu b j2 d j3 b2 e3
  obtain ⟨⟨d1, d2⟩, d3⟩ := xp b j3 m j4 c2 e4
  obtain ⟨⟨f1, f2⟩, f3⟩ := xp b j4 u j5 d2 e5
  refine ⟨⟨by omega, f2⟩, ?_⟩
  rw [xF a1 (show j1 ≤ j5 by omega) f2, xF b1 (show j2 ≤ j5 by omega) f2, xF c1 (show j3 ≤ j5 by omega) f2, xF d1 f1 f2, a3, b3, c3, d3, f3]
  simp only [zEe, zAW (zz e4).1, zAW (zz e5).1, List.append_assoc]
  rfl
theorem zEx {most n k a : Nat} {b : List UInt8} (h : jB most b a = some (n, k)) : yW b a = some (n, k) := (k7 h).1
theorem zFc {b : List UInt8} {r : RepD} (h : jQ b = some r) : r.enc = b ∧ r.wf ∧ r.ok := by
  unfold jQ jy at h
  simp only [Option.bind_eq_some_iff] at h
  obtain ⟨⟨x, j⟩, hp, h2⟩ := h
  dsimp only at h2
  split at h2
  · rename_i hc
    simp only [Option.some.injEq] at h2
    subst h2
    obtain ⟨s, j1, e1, hp⟩ := ze hp
    obtain ⟨q, j2, e2, hp⟩ := ze hp
    obtain ⟨o, j3, e3, hp⟩ := ze hp
    obtain ⟨l, j4, e4, hp⟩ := ze hp
    obtain ⟨m, j5, e5, hp⟩ := ze hp
    obtain ⟨u, j6, e6, hp⟩ := ze hp
    simp only [yk, Option.some.injEq, Prod.mk.injEq] at hp
    obtain ⟨rfl, rfl⟩ := hp
    obtain ⟨o', j3', e3', hp⟩ := ze e3
    simp only [yk, Option.some.injEq, Prod.mk.injEq] at hp
    obtain ⟨rfl, rfl⟩ := hp
    have e3 := zEx e3'
    obtain ⟨⟨a1, a2⟩, a3⟩ := xp b 0 s j1 (Nat.zero_le _) e1
    obtain ⟨⟨b1, b2⟩, b3⟩ := xp b j1 q j2 a2 e2
    obtain ⟨⟨c1, c2⟩, c3⟩ := xp b j2 o' j3' b2 e3
    obtain ⟨⟨d1, d2⟩, d3⟩ := xp b j3' l j4 c2 e4
    obtain ⟨⟨f1, f2⟩, f3⟩ := xp b j4 m j5 d2 e5
    obtain ⟨⟨g1, g2⟩, g3⟩ := xp b j5 u j6 f2 e6
    have hw : RepD.wf ⟨s, q, (o' : Int), l, yT m, yT u⟩ := ⟨(zz e1).1, (zz e2).1, (zz e4).1, x6 (zz e5).1, x6 (zz e6).1⟩
    refine ⟨?_, hw, hc.2⟩
    have hb : (b.take j6).drop 0 = b := by rw [hc.1]; simp
    rw [xF a1 (show j1 ≤ j6 by omega) g2, xF b1 (show j2 ≤ j6 by omega) g2, xF c1 (show j3' ≤ j6 by omega) g2, xF d1 (show j4 ≤ j6 by omega) g2, xF f1 g1 g2, a3, b3, c3, d3, f3, g3] at hb
    rw [← hb]
    have ho := (zz e3).1
    have ho2 : u64 (o' : Int) = o' := by unfold u64; omega
    simp only [RepD.enc, y7, List.flatMap_cons, List.flatMap_nil, zAW (zz e5).1, zAW (zz e6).1, ho2, List.append_nil]
  · cases h2
theorem zBG {b : List UInt8} {a k : Nat} {x : RepD} (h : kd b a = some (x, k)) : ∃ d, y0 b a = some (d, k) ∧ jQ d = some x := by
  simp only [kd, Option.bind_eq_some_iff, Option.map_eq_some_iff] at h
  obtain ⟨⟨d, j⟩, h1, r, h2, h3⟩ := h
  simp only [Prod.mk.injEq] at h3
  obtain ⟨rfl, rfl⟩ := h3
  exact ⟨d, h1, h2⟩
theorem cn_one : Cn kd fun r => dat r.enc := fun b a x k ha hp => by
  obtain ⟨d, h1, h2⟩ := zBG hp
  obtain ⟨a1, a2⟩ := zCu b a d k ha h1
  refine ⟨a1, ?_⟩
  rw [a2]
  show dat d = dat x.enc
  rw [(zFc h2).1]
theorem zCA {α : Type} {p : x2 α} {P : α → Prop} (h : ∀ b a x k, p b a = some (x, k) → P x) : ∀ n b a l k, yv p n b a = some (l, k) → ∀ x ∈ l, P x
  | 0, b, a, l, k, hp => by
    simp only [yv, yk, Option.some.injEq, Prod.mk.injEq] at hp
    obtain ⟨rfl, _⟩ := hp; intro x hx; cases hx
  | n + 1, b, a, l, k, hp => by
    obtain ⟨l', j, e1, hp⟩ := ze hp
    obtain ⟨y, i, e2, hp⟩ := ze hp
    simp only [yk, Option.some.injEq, Prod.mk.injEq] at hp
    obtain ⟨rfl, rfl⟩ := hp
    intro x hx
    rcases List.mem_append.1 hx with hx | hx
    · exact zCA h n b a l' j e1 x hx
    · rw [List.mem_singleton.1 hx]; exact h _ _ _ _ e2
theorem LedRead.back {d : List UInt8} {x : LedX} (h : LedRead d x) : d = xu x.idx x.now x.cnt x.bs x.ls x.rs ∧ x.idx < 18446744073709551616 ∧ x.cnt < 18446744073709551616 ∧ (∀ b ∈ x.bs, xY b.amount) ∧ (∀ l ∈ x.ls, xY l.amount ∧ xY l.until_ ∧ l.session < 18446744073709551616) ∧ ∀ r ∈ x.rs, r.wf ∧ r.ok := by
  obtain ⟨r, hp⟩ := h
  obtain ⟨i, j1, e1, hp⟩ := ze hp
  obtain ⟨t, j2, e2, hp⟩ := ze hp
  obtain ⟨c, j3, e3, hp⟩ := ze hp
  obtain ⟨bs, j5, e5, hp⟩ := ze hp
  obtain ⟨ls, j7, e7, hp⟩ := ze hp
  obtain ⟨rs, j8, e8, hp⟩ := ze hp
  simp only [yk, Option.some.injEq, Prod.mk.injEq] at hp
  obtain ⟨rfl, rfl⟩ := hp
  obtain ⟨n, j4, e4, e5⟩ := ze e5
  obtain ⟨m, j6, e6, e7⟩ := ze e7
  obtain ⟨⟨a1, a2⟩, a3⟩ := xp d 0 i j1 (Nat.zero_le _) e1
  obtain ⟨⟨b1, b2⟩, b3⟩ := xp d j1 t j2 a2 e2
  obtain ⟨⟨c1, c2⟩, c3⟩ := xp d j2 c j3 b2 e3
  obtain ⟨⟨d1, d2⟩, d3⟩ := xp d j3 n j4 c2 e4
  obtain ⟨⟨⟨f1, f2⟩, f3⟩, f4⟩ := cn_bud.rep n d j4 bs j5 d2 e5
  obtain ⟨⟨g1, g2⟩, g3⟩ := xp d j5 m j6 f2 e6
  obtain ⟨⟨⟨h1, h2⟩, h3⟩, h4⟩ := cn_lea.rep m d j6 ls j7 g2 e7
  obtain ⟨⟨⟨i1, i2⟩, i3⟩, i4⟩ := cn_one.rep r d j7 rs d.length h2 e8
  refine ⟨?_, (zz e1).1, (zz e3).1, zCA ?_ _ _ _ _ _ e5, zCA ?_ _ _ _ _ _ e7, zCA ?_ _ _ _ _ _ e8⟩
  · have hb : (d.take d.length).drop 0 = d := by simp
    rw [xF a1 (show j1 ≤ d.length by omega) (Nat.le_refl _), xF b1 (show j2 ≤ d.length by omega) (Nat.le_refl _), xF c1 (show j3 ≤ d.length by omega) (Nat.le_refl _), xF d1 (show j4 ≤ d.length by omega) (Nat.le_refl _),
      xF f1 (show j5 ≤ d.length by omega) (Nat.le_refl _), xF g1 (show j6 ≤ d.length by omega) (Nat.le_refl _), xF h1 (show j7 ≤ d.length by omega) (Nat.le_refl _), a3, b3, c3, d3, f3, g3, h3, i3] at hb
    rw [← hb]
    simp only [xu, zD0, zDs, zDh, zAW (zz e2).1, ← f4, ← h4, List.take_length, List.append_assoc]
  · intro b a x k hp
    obtain ⟨_, _, _, hp⟩ := ze hp
    obtain ⟨_, _, e, hp⟩ := ze hp
    simp only [yk, Option.some.injEq, Prod.mk.injEq] at hp
    obtain ⟨rfl, _⟩ := hp
    exact x6 (zz e).1
  · intro b a x k hp
    obtain ⟨_, _, _, hp⟩ := ze hp
    obtain ⟨_, _, q1, hp⟩ := ze hp
    obtain ⟨_, _, _, hp⟩ := ze hp
    obtain ⟨_, _, q2, hp⟩ := ze hp
    obtain ⟨_, _, q3, hp⟩ := ze hp
    simp only [yk, Option.some.injEq, Prod.mk.injEq] at hp
    obtain ⟨rfl, _⟩ := hp
    exact ⟨x6 (zz q2).1, x6 (zz q3).1, (zz q1).1⟩
  · intro b a x k hp
    obtain ⟨d, _, h⟩ := zBG hp
    exact (zFc h).2
theorem zDk {b : List UInt8} {a k : Nat} {x : RepD} (h : kd b a = some (x, k)) : a < k ∧ k ≤ b.length := by
  obtain ⟨d, h1, _⟩ := zBG h
  have hk := (xq h1).1
  simp only [y0, Option.bind_eq_some_iff] at h1
  obtain ⟨⟨n, j⟩, h1, h2⟩ := h1
  have := (zz h1).2.2
  dsimp only at h2
  split at h2
  · cases h2
  · simp only [Option.some.injEq, Prod.mk.injEq] at h2
    omega
theorem zGE {α : Type} {p : x2 α} {b : List UInt8} {a r k : Nat} {v : List α × Nat} (h : yv p r b a = some v) (hk : k ≤ r) : ∃ q, yv p k b a = some q := by
  cases e : yv p k b a with
  | some q => exact ⟨q, rfl⟩
  | none => rw [zDW e r hk] at h; cases h
theorem zIB {b : List UInt8} {a r k at_ : Nat} {rs v : List RepD} (h : yv kd r b a = some (v, b.length)) (hk : yv kd k b a = some (rs, at_)) (hr : k ≤ r) (ha : at_ < b.length) : k + 1 ≤ r := by
  rcases Nat.lt_or_ge k r with q | q
  · exact q
  · have e : k = r := by omega
    rw [e, h] at hk
    simp only [Option.some.injEq, Prod.mk.injEq] at hk
    omega
theorem zER {b : List UInt8} {a r k at_ : Nat} {rs v : List RepD} (h : yv kd r b a = some (v, b.length)) (hk : yv kd k b a = some (rs, at_)) (hr : r < k) : False := by
  obtain ⟨q, hq⟩ := zGE hk (show r + 1 ≤ k by omega)
  obtain ⟨_, _, e1, hq⟩ := ze (v := q.1) (k := q.2) hq
  rw [h] at e1
  simp only [Option.some.injEq, Prod.mk.injEq] at e1
  obtain ⟨rfl, rfl⟩ := e1
  obtain ⟨_, _, e2, _⟩ := ze hq
  have := zDk e2
  omega
theorem LedRead.one {d : List UInt8} {x y : LedX} (hx : LedRead d x) (hy : LedRead d y) : x = y := by
  obtain ⟨r, hp⟩ := hx
  obtain ⟨r', hq⟩ := hy
  have hr : r = r' := by
    obtain ⟨i, j1, e1, hp⟩ := ze hp
    obtain ⟨t, j2, e2, hp⟩ := ze hp
    obtain ⟨c, j3, e3, hp⟩ := ze hp
    obtain ⟨bs, j5, e5, hp⟩ := ze hp
    obtain ⟨ls, j7, e7, hp⟩ := ze hp
    obtain ⟨rs, j8, e8, hp⟩ := ze hp
    simp only [yk, Option.some.injEq, Prod.mk.injEq] at hp
    obtain ⟨_, rfl⟩ := hp
    simp only [zMp, yE, e1, e2, e3, Option.bind_some] at hq
    have e5' : (yW d j3).bind (fun r => yv zCP r.1 d r.2) = some (bs, j5) := e5
    have e7' : (yW d j5).bind (fun r => yv zBx r.1 d r.2) = some (ls, j7) := e7
    rw [e5'] at hq
    simp only [Option.bind_some] at hq
    rw [e7'] at hq
    simp only [Option.bind_some, Option.bind_eq_some_iff] at hq
    obtain ⟨⟨rs', k⟩, f1, hq⟩ := hq
    simp only [yk, Option.some.injEq, Prod.mk.injEq] at hq
    obtain ⟨_, rfl⟩ := hq
    rcases Nat.lt_trichotomy r r' with q | q | q
    · exact (zER e8 f1 q).elim
    · exact q
    · exact (zER f1 e8 q).elim
  subst hr
  rw [hp] at hq
  simp only [Option.some.injEq, Prod.mk.injEq] at hq
  exact hq.1
theorem zDN {b d : List UInt8} {a k : Nat} (h : y0 b a = some (d, k)) : a < k := by
  simp only [y0, Option.bind_eq_some_iff] at h
  obtain ⟨⟨n, j⟩, h1, h2⟩ := h
  have := (zz h1).2.2
  dsimp only at h2
  split at h2
  · cases h2
  · simp only [Option.some.injEq, Prod.mk.injEq] at h2; omega
theorem zGM {b : List UInt8} {a k : Nat} {x : BudD} (h : zCP b a = some (x, k)) : a < k := by
  obtain ⟨_, j, e1, h⟩ := ze h
  obtain ⟨_, i, e2, h⟩ := ze h
  simp only [yk, Option.some.injEq, Prod.mk.injEq] at h
  have := zDN e1; have := (zz e2).2.2; omega
theorem zDu {b : List UInt8} {a k : Nat} {x : LeaD} (h : zBx b a = some (x, k)) : a < k := by
  obtain ⟨_, _, e1, h⟩ := ze h
  obtain ⟨_, _, e2, h⟩ := ze h
  obtain ⟨_, _, e3, h⟩ := ze h
  obtain ⟨_, _, e4, h⟩ := ze h
  obtain ⟨_, _, e5, h⟩ := ze h
  simp only [yk, Option.some.injEq, Prod.mk.injEq] at h
  have := (zz e1).2.2; have := (zz e2).2.2; have := zDN e3; have := (zz e4).2.2; have := (zz e5).2.2; omega
def Few (n at_ : Nat) (bad : Bool) (len : Nat) : Prop := (bad = false → n ≤ at_) ∧ n ≤ len + 1
theorem Few.start (a : Nat) (bad : Bool) (len : Nat) : Few 0 a bad len := ⟨fun _ => Nat.zero_le _, Nat.zero_le _⟩
theorem Few.next {α : Type} {p : x2 α} {b : List UInt8} {a a' n : Nat} {bad' : Bool} {x : α} (h : Few n a false b.length) (ha : a ≤ b.length) (hp : ∀ x k, p b a = some (x, k) → a < k) (hr : RdS p b a false x a' bad') : Few (n + 1) a' bad' b.length :=
  ⟨fun q => by have := hp _ _ (hr.good q).2; have := h.1 rfl; omega, by have := h.1 rfl; omega⟩
theorem RdS.loop {α : Type} {p : x2 α} {b : List UInt8} {a a1 a2 n k : Nat} {bad bad1 bad2 : Bool} {l : List α} (h1 : RdS yW b a bad n a1 bad1) (h2 : RdS (yv p l.length) b a1 bad1 l a2 bad2) (hk : k + l.length = n) (c : ¬ (((0 : Nat) : Int) < ((k : Nat) : Int) ∧ (!bad2) = true)) : RdS (yE yW (yv p)) b a bad l a2 bad2 := by
  refine h1.bind ?_
  cases hb : bad2 with
  | true => rw [hb] at h2; exact h2.stop (by omega)
  | false => have e : k = 0 := by rcases Nat.eq_zero_or_pos k with q | q; exact q; exact absurd ⟨by omega, by rw [hb]; rfl⟩ c
             rw [show n = l.length by omega]; rw [hb] at h2; exact h2
theorem RdS.one {b d : List UInt8} {a a1 : Nat} {bad bad1 : Bool} {x : RepD} {e : Int} (h1 : RdS y0 b a bad d a1 bad1) (h2 : ValPost (jQ d) x zKf e) : RdS kd b a bad x a1 (decide (bad1 = true ∨ e ≠ 0)) := by
  refine ⟨h1.le, fun h => decide_eq_true (.inl (h1.st h)), fun v k hb hp => ?_, fun hb hp => ?_⟩
  · obtain ⟨d', e1, e2⟩ := zBG hp
    obtain ⟨q1, rfl, rfl⟩ := h1.ok d' k hb e1
    rcases h2 with ⟨r1, r2⟩ | ⟨_, r2, _⟩
    · rw [e2] at r2; cases r2
      exact ⟨decide_eq_false (by rintro (q | q); rw [q1] at q; cases q; exact q r1), rfl, rfl⟩
    · rw [e2] at r2; cases r2
  · refine decide_eq_true ?_
    cases hq : y0 b a with
    | none => exact .inl (h1.no hb hq)
    | some q =>
      obtain ⟨d', k⟩ := q
      obtain ⟨_, rfl, rfl⟩ := h1.ok d' k hb hq
      have hn : jQ d = none := by
        cases hr : jQ d with
        | none => rfl
        | some r => simp only [kd, hq, Option.bind_some, hr, Option.map_some] at hp; cases hp
      rcases h2 with ⟨_, r2⟩ | ⟨r1, _, _⟩
      · rw [hn] at r2; cases r2
      · exact .inr (by rw [r1]; decide)
theorem zMD {d : List UInt8} {x : RepD} {e : Int} (h : ValPost (jQ d) x zKf e) : x.wf := by
  rcases h with ⟨_, h⟩ | ⟨_, _, rfl⟩
  · exact (zFc h).2.1
  · exact ⟨by decide, by decide, by decide, by unfold xY; decide, by unfold xY; decide⟩
def Reach (b : List UInt8) (a n : Nat) : Prop := ∀ r v, yv kd r b a = some (v, b.length) → n ≤ r
theorem Reach.next {b : List UInt8} {a at_ : Nat} {bad : Bool} {rs : List RepD} (h : Reach b a rs.length) (h1 : RdS (yv kd rs.length) b a bad rs at_ false) (ha : at_ < b.length) : Reach b a (rs.length + 1) := fun r v hp =>
  zIB hp (h1.good rfl).2 (h r v hp) ha
def zIM (idx : Nat) (now : Int) (cnt : Nat) (kb : List (ByteArray × Int)) (kl : List (Nat × LeaD)) (kr : List (Nat × RepD)) (d : List UInt8) (er : Int) (idx' : Nat) (now' : Int) (cnt' : Nat) (kb' : List (ByteArray × Int)) (kl' : List (Nat × LeaD)) (kr' : List (Nat × RepD)) : Prop :=
  (er = 0 ∧ ∃ x : LedX, (LedRead d x ∧ LoadOk x.now x.cnt x.bs x.ls ∧ COk x.rs) ∧ idx' = x.idx ∧ now' = x.now ∧ cnt' = x.cnt ∧ kb' = KB x.bs ∧ kl' = KL x.ls ∧ kr' = KR x.rs)
  ∨ (er = 4 ∧ (∀ x, LedRead d x → ¬ (LoadOk x.now x.cnt x.bs x.ls ∧ COk x.rs)) ∧ idx' = idx ∧ now' = now ∧ cnt' = cnt ∧ kb' = kb ∧ kl' = kl ∧ kr' = kr)
section
variable {d : List UInt8} {i t c a1 a2 a3 a5 a7 a8 : Nat} {b1 b2 b3 b5 b7 b8 : Bool} {bs : List BudD} {ls : List LeaD} {rs : List RepD}
theorem zGY (h1 : RdS yW d 0 false i a1 b1) (h2 : RdS yW d a1 b1 t a2 b2) (h3 : RdS yW d a2 b2 c a3 b3) (h5 : RdS (yE yW (yv zCP)) d a3 b3 bs a5 b5) (h7 : RdS (yE yW (yv zBx)) d a5 b5 ls a7 b7) (h8 : RdS (yv kd rs.length) d a7 b7 rs a8 b8)
    (hb : b8 = false) (ha : ¬ a8 < d.length) : LedRead d ⟨i, yT t, c, bs, ls, rs⟩ := by
  refine ⟨rs.length, ?_⟩
  have h := h1.bind (q := fun i => yE yW fun t => yE yW fun c => yE (yE yW (yv zCP)) fun bs => yE (yE yW (yv zBx)) fun ls => yE (yv kd rs.length) fun rs => yk (⟨i, yT t, c, bs, ls, rs⟩ : LedX))
    (h2.bind (q := fun t => yE yW fun c => yE (yE yW (yv zCP)) fun bs => yE (yE yW (yv zBx)) fun ls => yE (yv kd rs.length) fun rs => yk (⟨i, yT t, c, bs, ls, rs⟩ : LedX))
      (h3.bind (q := fun c => yE (yE yW (yv zCP)) fun bs => yE (yE yW (yv zBx)) fun ls => yE (yv kd rs.length) fun rs => yk (⟨i, yT t, c, bs, ls, rs⟩ : LedX))
        (h5.bind (q := fun bs => yE (yE yW (yv zBx)) fun ls => yE (yv kd rs.length) fun rs => yk (⟨i, yT t, c, bs, ls, rs⟩ : LedX))
          (h7.bind (q := fun ls => yE (yv kd rs.length) fun rs => yk (⟨i, yT t, c, bs, ls, rs⟩ : LedX)) (h8.map fun rs => (⟨i, yT t, c, bs, ls, rs⟩ : LedX))))))
  have e : a8 = d.length := by have := h8.le; omega
  rw [e] at h
  exact (h.good hb).2
theorem zLu (h1 : RdS yW d 0 false i a1 b1) (h2 : RdS yW d a1 b1 t a2 b2) (h3 : RdS yW d a2 b2 c a3 b3) (h5 : RdS (yE yW (yv zCP)) d a3 b3 bs a5 b5) (h7 : RdS (yE yW (yv zBx)) d a5 b5 ls a7 b7) (h8 : RdS (yv kd rs.length) d a7 b7 rs a8 b8) (hr : Reach d a7 rs.length)
    (hb : b8 = true) : ∀ x, ¬ LedRead d x := by
  rintro x ⟨r, hp⟩
  obtain ⟨i', j1, e1, hp⟩ := ze hp
  obtain ⟨t', j2, e2, hp⟩ := ze hp
  obtain ⟨c', j3, e3, hp⟩ := ze hp
  obtain ⟨bs', j5, e5, hp⟩ := ze hp
  obtain ⟨ls', j7, e7, hp⟩ := ze hp
  obtain ⟨rs', j8, e8, hp⟩ := ze hp
  simp only [yk, Option.some.injEq, Prod.mk.injEq] at hp
  obtain ⟨_, rfl⟩ := hp
  obtain ⟨f1, _, rfl⟩ := h1.ok _ _ rfl e1
  obtain ⟨f2, _, rfl⟩ := h2.ok _ _ f1 e2
  obtain ⟨f3, _, rfl⟩ := h3.ok _ _ f2 e3
  obtain ⟨f5, _, rfl⟩ := h5.ok _ _ f3 e5
  obtain ⟨f7, _, rfl⟩ := h7.ok _ _ f5 e7
  obtain ⟨q, hq⟩ := zGE e8 (hr _ _ e8)
  obtain ⟨f8, _⟩ := h8.ok q.1 q.2 f7 hq
  rw [hb] at f8; cases f8
end
theorem RdS.bud {b k : List UInt8} {a a1 a2 m : Nat} {bad bad1 bad2 : Bool} (h1 : RdS y0 b a bad k a1 bad1) (h2 : RdS yW b a1 bad1 m a2 bad2) : RdS zCP b a bad ⟨jv k, yT m⟩ a2 bad2 :=
  h1.bind (q := fun k => yE yW fun a => yk (⟨jv k, yT a⟩ : BudD)) (h2.map fun a => (⟨jv k, yT a⟩ : BudD))
theorem RdS.lea {b k : List UInt8} {a a1 a2 a3 a4 a5 i s m u : Nat} {bad bad1 bad2 bad3 bad4 bad5 : Bool} (h1 : RdS yW b a bad i a1 bad1) (h2 : RdS yW b a1 bad1 s a2 bad2) (h3 : RdS y0 b a2 bad2 k a3 bad3) (h4 : RdS yW b a3 bad3 m a4 bad4) (h5 : RdS yW b a4 bad4 u a5 bad5) : RdS zBx b a bad ⟨i, s, jv k, yT m, yT u⟩ a5 bad5 :=
  h1.bind (q := fun i => yE yW fun s => yE y0 fun k => yE yW fun a => yE yW fun u => yk (⟨i, s, jv k, yT a, yT u⟩ : LeaD))
    (h2.bind (q := fun s => yE y0 fun k => yE yW fun a => yE yW fun u => yk (⟨i, s, jv k, yT a, yT u⟩ : LeaD))
      (h3.bind (q := fun k => yE yW fun a => yE yW fun u => yk (⟨i, s, jv k, yT a, yT u⟩ : LeaD))
        (h4.bind (q := fun a => yE yW fun u => yk (⟨i, s, jv k, yT a, yT u⟩ : LeaD)) (h5.map fun u => (⟨i, s, jv k, yT m, yT u⟩ : LeaD)))))
theorem zE0 {α : Type} {P : α → Prop} {l : List α} {x : α} (h : ∀ y ∈ l, P y) (hx : P x) : ∀ y ∈ l ++ [x], P y := fun y hy => by
  rcases List.mem_append.1 hy with hy | hy
  · exact h y hy
  · rw [List.mem_singleton.1 hy]; exact hx
theorem zL3 {b : Bool} (h : (!b) = true) : b = false := by cases b <;> simp_all
theorem RdS.more {α : Type} {p : x2 α} {P : α → Prop} {b : List UInt8} {a a1 a2 n k : Nat} {bad bad1 bad2 : Bool} {l : List α} {x : α} (hk : k + l.length = n) (h1 : RdS (yv p l.length) b a bad l a1 bad1) (hf : Few l.length a1 bad1 b.length) (hP : ∀ y ∈ l, P y)
    (c : ((0 : Nat) : Int) < ((k : Nat) : Int) ∧ (!bad1) = true) (hx : RdS p b a1 bad1 x a2 bad2) (hp : ∀ x k, p b a1 = some (x, k) → a1 < k) (hPx : P x) : k - 1 + (l ++ [x]).length = n ∧ RdS (yv p (l ++ [x]).length) b a bad (l ++ [x]) a2 bad2 ∧ Few (l ++ [x]).length a2 bad2 b.length ∧ ∀ y ∈ l ++ [x], P y := by
  have hb := zL3 c.2
  have e : (l ++ [x]).length = l.length + 1 := by simp
  rw [e]
  refine ⟨by omega, h1.snoc hx, ?_, zE0 hP hPx⟩
  subst hb
  exact hf.next h1.le hp hx
theorem RdS.more3 {d : List UInt8} {a a1 a2 : Nat} {bad bad1 bad2 : Bool} {rs : List RepD} {x : RepD} (h1 : RdS (yv kd rs.length) d a bad rs a1 bad1) (hq : Reach d a rs.length) (hf : Few rs.length a1 bad1 d.length) (hw : ∀ r ∈ rs, r.wf)
    (c : (!bad1) = true ∧ ((a1 : Nat) : Int) < ((d.length : Nat) : Int)) (hx : RdS kd d a1 bad1 x a2 bad2) (hxw : x.wf) : RdS (yv kd (rs ++ [x]).length) d a bad (rs ++ [x]) a2 bad2 ∧ Reach d a (rs ++ [x]).length ∧ Few (rs ++ [x]).length a2 bad2 d.length ∧ ∀ r ∈ rs ++ [x], r.wf := by
  have hb := zL3 c.1
  have e : (rs ++ [x]).length = rs.length + 1 := by simp
  rw [e]
  subst hb
  exact ⟨h1.snoc hx, hq.next h1 (by omega), hf.next h1.le (fun _ _ q => (zDk q).1) hx, zE0 hw hxw⟩
theorem zI8 {d : List UInt8} {a1 a2 : Nat} {bad1 bad2 : Bool} {x : RepD} (c : (!bad1) = true ∧ ((a1 : Nat) : Int) < ((d.length : Nat) : Int)) (hx : RdS kd d a1 bad1 x a2 bad2) : (if bad2 = true then 0 else d.length - a2 + 1) < if bad1 = true then 0 else d.length - a1 + 1 := by
  have hb := zL3 c.1
  subst hb
  rw [if_neg (show ¬ false = true by decide)]
  split
  · omega
  · rename_i h
    have h2 := zDk (hx.good (by cases bad2; rfl; exact absurd rfl h)).2
    omega
theorem zCU {A B : Prop} {e : Int} (h : (e = 0 ∧ A) ∨ (e = 2 ∧ B)) (he : ¬ e ≠ 0) : A := by
  rcases h with h | h
  · exact h.2
  · rw [h.1] at he; exact absurd (by decide) he
theorem zKp {A B : Prop} {e : Int} (h : (e = 0 ∧ A) ∨ (e = 2 ∧ B)) (he : e ≠ 0) : B := by
  rcases h with h | h
  · exact absurd h.1 he
  · exact h.2
theorem zF9 {d : List UInt8} {y : LedX} (h : LedRead d y) (hn : ¬ (LoadOk y.now y.cnt y.bs y.ls ∧ COk y.rs)) : ∀ x, LedRead d x → ¬ (LoadOk x.now x.cnt x.bs x.ls ∧ COk x.rs) := fun x hx => by
  rw [hx.one h]; exact hn
end Go.Proofs.YthincafbmpialaaGreat
