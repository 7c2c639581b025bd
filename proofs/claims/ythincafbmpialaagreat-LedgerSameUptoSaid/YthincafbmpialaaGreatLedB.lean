import Derived.Test.YthincafbmpialaaGreatLedA
import Derived.Test.YthincafbmpialaaGreatLedRt
set_option linter.unusedSectionVars false
set_option linter.unusedSimpArgs false
set_option linter.unusedVariables false
set_option maxRecDepth 10000
namespace Go.Proofs.YthincafbmpialaaGreat
open Go Go.Sc Go.Proofs
def zCh (x : BudD) : List UInt8 := jj (zAm x.key) ++ z2 (u64 x.amount)
def zBY (x : LeaD) : List UInt8 := z2 x.id ++ z2 x.session ++ jj (zAm x.key) ++ z2 (u64 x.amount) ++ z2 (u64 x.until_)
def zCw (idx : Nat) (now : Int) (cnt : Nat) (bs : List BudD) (i : Nat) : List UInt8 := z2 idx ++ z2 (u64 now) ++ z2 cnt ++ z2 bs.length ++ (bs.take i).flatMap zCh
def zCn (idx : Nat) (now : Int) (cnt : Nat) (bs : List BudD) (ls : List LeaD) (i : Nat) : List UInt8 := zCw idx now cnt bs bs.length ++ z2 ls.length ++ (ls.take i).flatMap zBY
def zCx (idx : Nat) (now : Int) (cnt : Nat) (bs : List BudD) (ls : List LeaD) (rs : List RepD) (i : Nat) : List UInt8 := zCn idx now cnt bs ls ls.length ++ (rs.take i).flatMap fun r => jj r.enc
def yc (idx : Nat) (now : Int) (cnt : Nat) (bs : List BudD) (ls : List LeaD) (rs : List RepD) : List UInt8 := zCx idx now cnt bs ls rs rs.length
theorem zAI {α : Type} {f : α → List UInt8} {c : Nat} : ∀ {l : List α}, (∀ x ∈ l, (f x).length ≤ c) → (l.flatMap f).length ≤ c * l.length
  | [], _ => by simp
  | x :: l, h => by
    have h1 := h x List.mem_cons_self
    have h2 := zAI (l := l) fun y hy => h y (List.mem_cons_of_mem _ hy)
    simp only [List.flatMap_cons, List.length_append, List.length_cons, Nat.mul_add]
    omega
theorem zGs {x : BudD} (h : yY x.key) : (zCh x).length ≤ 82 := by
  have h1 := y7 (yh x.amount)
  have h2 : (z2 x.key.size).length ≤ 9 := y7 (by have := h.2; omega)
  have := h.2
  simp only [zCh, jj, List.length_append, x4]; omega
theorem zHF {x : LeaD} (h : yY x.key) (hi : x.id < 18446744073709551616) (hs : x.session < 18446744073709551616) : (zBY x).length ≤ 109 := by
  have h1 := y7 (yh x.amount)
  have h2 : (z2 x.key.size).length ≤ 9 := y7 (by have := h.2; omega)
  have h3 := y7 (yh x.until_)
  have h4 := y7 hi
  have h5 := y7 hs
  have := h.2
  simp only [zBY, jj, List.length_append, x4]; omega
theorem zCF {x : RepD} (h : x.wf) : (jj x.enc).length ≤ 63 := by
  have h1 : x.enc.length ≤ 54 := xh (ns := [x.session, x.seq, u64 x.e, x.lease, u64 x.amount, u64 x.until_]) (fun n hn => by
    simp only [List.mem_cons, List.not_mem_nil, or_false] at hn
    rcases hn with rfl | rfl | rfl | rfl | rfl | rfl
    · exact h.session
    · exact h.seq
    · exact yh _
    · exact h.lease
    · exact yh _
    · exact yh _)
  have h2 : (z2 x.enc.length).length ≤ 9 := y7 (by omega)
  simp only [jj, List.length_append]; omega
theorem zDG {v : Value} {k : ByteArray} (h : yY k) : (yA [(v, k.data.toList)]).length ≤ 73 := by
  have h2 : (z2 k.size).length ≤ 9 := y7 (by have := h.2; omega)
  have h3 : k.data.toList.length = k.size := x4 k
  have := h.2
  simp only [yA, List.flatMap_cons, List.flatMap_nil, List.append_nil, jj, List.length_append, h3]; omega
structure SOk (idx : Nat) (now : Int) (cnt : Nat) (bs : List BudD) (ls : List LeaD) (rs : List RepD) : Prop where
  q : QOk now cnt bs ls
  s : QSrt bs
  c : COk rs
  w : ∀ r ∈ rs, r.wf
  i : idx < 18446744073709551616
  n : cnt < 18446744073709551616
  a : ∀ l ∈ ls, l.session < 18446744073709551616
section
variable {idx : Nat} {now : Int} {cnt : Nat} {bs : List BudD} {ls : List LeaD} {rs : List RepD}
theorem SOk.lea (h : SOk idx now cnt bs ls rs) : ∀ x ∈ ls, yY x.key ∧ x.id < 18446744073709551616 ∧ x.session < 18446744073709551616 ∧ xD x.amount ∧ xD x.until_ := fun x hx => by
  have h0 := h.q.lok x hx
  have h1 := h.q.sums x.key
  have h2 := jG (k := x.key) (List.singleton_sublist.2 hx) h.q.pos
  have h3 := h.q.time
  have h4 := h.n
  simp only [ye, if_true] at h2
  refine ⟨h0.2.2.2.2.2.2, by omega, h.a x hx, ?_, ?_⟩ <;> (unfold xD; omega)
theorem zD0 (h : SOk idx now cnt bs ls rs) (i : Nat) : (zCw idx now cnt bs i).length ≤ 5300 := by
  have h1 := y7 h.i
  have h2 := y7 (yh now)
  have h3 := y7 h.n
  have hb := h.q.blen
  have h4 : (z2 bs.length).length ≤ 9 := y7 (by omega)
  have h5 := zAI (l := bs.take i) (f := zCh) (c := 82) fun x hx => zGs (h.q.bpos x (List.mem_of_mem_take hx)).2.2
  have h6 : (bs.take i).length ≤ 64 := by rw [List.length_take]; omega
  simp only [zCw, List.length_append]; omega
theorem zDz (h : SOk idx now cnt bs ls rs) (i : Nat) : (zCn idx now cnt bs ls i).length ≤ 19300 := by
  have h1 := zD0 h bs.length
  have hb := h.q.llen
  have h4 : (z2 ls.length).length ≤ 9 := y7 (by omega)
  have h5 := zAI (l := ls.take i) (f := zBY) (c := 109) fun x hx => by
    have k := h.lea x (List.mem_of_mem_take hx)
    exact zHF k.1 k.2.1 k.2.2.1
  have h6 : (ls.take i).length ≤ 128 := by rw [List.length_take]; omega
  simp only [zCn, List.length_append]; omega
theorem zEc (h : SOk idx now cnt bs ls rs) (i : Nat) : (zCx idx now cnt bs ls rs i).length ≤ 21400 := by
  have h1 := zDz h ls.length
  have hb := h.c.len
  have h5 := zAI (l := rs.take i) (f := fun r => jj r.enc) (c := 63) fun x hx => zCF (h.w x (List.mem_of_mem_take hx))
  have h6 : (rs.take i).length ≤ 32 := by rw [List.length_take]; omega
  simp only [zCx, List.length_append]; omega
theorem zGY {i : Nat} (hi : i < bs.length) : zCw idx now cnt bs (i + 1) = zCw idx now cnt bs i ++ zCh (zI bs i) := by
  simp only [zCw, yD hi, List.flatMap_append, List.flatMap_cons, List.flatMap_nil, List.append_nil, List.append_assoc]
theorem zGI {i : Nat} (hi : i < ls.length) : zCn idx now cnt bs ls (i + 1) = zCn idx now cnt bs ls i ++ zBY (zI ls i) := by
  simp only [zCn, yD hi, List.flatMap_append, List.flatMap_cons, List.flatMap_nil, List.append_nil, List.append_assoc]
theorem zGO {i : Nat} (hi : i < rs.length) : zCx idx now cnt bs ls rs (i + 1) = zCx idx now cnt bs ls rs i ++ jj (zI rs i).enc := by
  simp only [zCx, yD hi, List.flatMap_append, List.flatMap_cons, List.flatMap_nil, List.append_nil, List.append_assoc]
def ju : xb BudD := zk yi fun k => zk yC fun a => yM ⟨x3 k, yG a⟩
def jb : xb LeaD := zk yC fun i => zk yC fun s => zk yi fun k => zk yC fun a => zk yC fun u => yM ⟨i, s, x3 k, yG a, yG u⟩
def xl : xb RepD := fun b a => (yi b a).bind fun q => (kj q.1).map fun r => (r, q.2)
structure LedX where
  idx : Nat
  now : Int
  cnt : Nat
  bs : List BudD
  ls : List LeaD
  rs : List RepD
def zLN (r : Nat) : xb LedX := zk yC fun i => zk yC fun t => zk yC fun c => zk (zk yC (yP ju)) fun bs => zk (zk yC (yP jb)) fun ls => zk (yP xl r) fun rs => yM ⟨i, yG t, c, bs, ls, rs⟩
def LedRead (d : List UInt8) (x : LedX) : Prop := ∃ r, zLN r d 0 = some (x, d.length)
theorem zFh (k : ByteArray) : x3 (zAm k) = k := rfl
theorem zKQ {x : BudD} (hk : yY x.key) (ha : xD x.amount) : Rt ju x (zCh x) := by
  have hl : (zAm x.key).length < 18446744073709551616 := by have := hk.2; rw [x4]; omega
  have h := (zCa hl).bind (q := fun k => zk yC fun a => yM (⟨x3 k, yG a⟩ : BudD)) ((xd (yh x.amount)).map fun a => (⟨x3 (zAm x.key), yG a⟩ : BudD))
  rw [zAM ha, zFh] at h; exact h
theorem zKe {x : LeaD} (hk : yY x.key) (hi : x.id < 18446744073709551616) (hs : x.session < 18446744073709551616) (ha : xD x.amount) (hu : xD x.until_) : Rt jb x (zBY x) := by
  have hl : (zAm x.key).length < 18446744073709551616 := by have := hk.2; rw [x4]; omega
  have h := (xd hi).bind (q := fun i => zk yC fun s => zk yi fun k => zk yC fun a => zk yC fun u => yM (⟨i, s, x3 k, yG a, yG u⟩ : LeaD))
    ((xd hs).bind (q := fun s => zk yi fun k => zk yC fun a => zk yC fun u => yM (⟨x.id, s, x3 k, yG a, yG u⟩ : LeaD))
      ((zCa hl).bind (q := fun k => zk yC fun a => zk yC fun u => yM (⟨x.id, x.session, x3 k, yG a, yG u⟩ : LeaD))
        ((xd (yh x.amount)).bind (q := fun a => zk yC fun u => yM (⟨x.id, x.session, x3 (zAm x.key), yG a, yG u⟩ : LeaD))
          ((xd (yh x.until_)).map fun u => (⟨x.id, x.session, x3 (zAm x.key), yG (u64 x.amount), yG u⟩ : LeaD)))))
  rw [zAM ha, zAM hu, zFh] at h
  have e : zBY x = z2 x.id ++ (z2 x.session ++ (jj (zAm x.key) ++ (z2 (u64 x.amount) ++ z2 (u64 x.until_)))) := by simp [zBY]
  rw [e]; exact h
theorem zK1 {x : RepD} (h : x.ok) (hw : x.wf) : Rt zLH x x.enc := by
  have e : x.enc = z2 x.session ++ (z2 x.seq ++ (z2 (u64 x.e) ++ (z2 x.lease ++ (z2 (u64 x.amount) ++ (z2 (u64 x.until_) ++ []))))) := by simp [RepD.enc, yj]
  have h6 : Rt (zk yC fun u => yM (⟨x.session, x.seq, x.e, x.lease, yG (u64 x.amount), yG u⟩ : RepD)) x (z2 (u64 x.until_) ++ []) :=
    (xd (yh _)).bind (q := fun u => yM (⟨x.session, x.seq, x.e, x.lease, yG (u64 x.amount), yG u⟩ : RepD)) (by rw [zAM hw.amount, zAM hw.until_]; exact Rt.pure x)
  rw [e]
  exact (xd hw.session).bind ((xd hw.seq).bind ((zKf h.1 h.2 (by decide)).bind ((xd hw.lease).bind ((xd (yh _)).bind h6))))
theorem zKA {x : RepD} (h : x.ok) (hw : x.wf) : Rt xl x (jj x.enc) := fun pre s => by
  have hl := zCF hw
  have h1 := zCa (d := x.enc) (by simp only [jj, List.length_append] at hl; omega) pre s
  have h2 := zF3 (ok := RepD.ok) (zK1 h hw) h
  simp only [xl, h1, Option.bind_some]
  rw [show kj x.enc = some x from h2]; rfl
theorem zBc (h : SOk idx now cnt bs ls rs) : LedRead (yc idx now cnt bs ls rs) ⟨idx, now, cnt, bs, ls, rs⟩ := by
  refine ⟨rs.length, ?_⟩
  have hbl := h.q.blen
  have hll := h.q.llen
  have hb : Rt (zk yC (yP ju)) bs (z2 bs.length ++ bs.flatMap zCh) :=
    (xd (n := bs.length) (by omega)).bind (q := yP ju) (Rt.rep fun x hx => zKQ (h.q.bpos x hx).2.2 ⟨by have := (h.q.bpos x hx).1; omega, (h.q.bpos x hx).2.1⟩)
  have hl : Rt (zk yC (yP jb)) ls (z2 ls.length ++ ls.flatMap zBY) :=
    (xd (n := ls.length) (by omega)).bind (q := yP jb) (Rt.rep fun x hx => by have k := h.lea x hx; exact zKe k.1 k.2.1 k.2.2.1 k.2.2.2.1 k.2.2.2.2)
  have hr : Rt (yP xl rs.length) rs (rs.flatMap fun r => jj r.enc) := Rt.rep fun x hx => zKA (h.c.each x hx).1 (h.w x hx)
  have ht := h.q.time
  have h1 := (xd h.i).bind (q := fun i => zk yC fun t => zk yC fun c => zk (zk yC (yP ju)) fun bs => zk (zk yC (yP jb)) fun ls => zk (yP xl rs.length) fun rs => yM (⟨i, yG t, c, bs, ls, rs⟩ : LedX))
    ((xd (yh now)).bind (q := fun t => zk yC fun c => zk (zk yC (yP ju)) fun bs => zk (zk yC (yP jb)) fun ls => zk (yP xl rs.length) fun rs => yM (⟨idx, yG t, c, bs, ls, rs⟩ : LedX))
      ((xd h.n).bind (q := fun c => zk (zk yC (yP ju)) fun bs => zk (zk yC (yP jb)) fun ls => zk (yP xl rs.length) fun rs => yM (⟨idx, yG (u64 now), c, bs, ls, rs⟩ : LedX))
        (hb.bind (q := fun bs => zk (zk yC (yP jb)) fun ls => zk (yP xl rs.length) fun rs => yM (⟨idx, yG (u64 now), cnt, bs, ls, rs⟩ : LedX))
          (hl.bind (q := fun ls => zk (yP xl rs.length) fun rs => yM (⟨idx, yG (u64 now), cnt, bs, ls, rs⟩ : LedX))
            (hr.map fun rs => (⟨idx, yG (u64 now), cnt, bs, ls, rs⟩ : LedX))))))
  rw [zAM (by unfold xD; omega)] at h1
  have h2 := h1 [] []
  simp only [List.nil_append, List.append_nil, List.length_nil] at h2
  have e : yc idx now cnt bs ls rs = z2 idx ++ (z2 (u64 now) ++ (z2 cnt ++ (z2 bs.length ++ bs.flatMap zCh ++ (z2 ls.length ++ ls.flatMap zBY ++ rs.flatMap fun r => jj r.enc)))) := by
    simp [yc, zCx, zCn, zCw]
  rw [e]; exact h2
end
def Cn {α : Type} (p : xb α) (enc : α → List UInt8) : Prop := ∀ b a x k, a ≤ b.length → p b a = some (x, k) → (a ≤ k ∧ k ≤ b.length) ∧ (b.take k).drop a = enc x
theorem yt {b : List UInt8} {a j k : Nat} (h1 : a ≤ j) (h2 : j ≤ k) (h3 : k ≤ b.length) : (b.take k).drop a = (b.take j).drop a ++ (b.take k).drop j := by
  have e : (b.take k) = b.take j ++ (b.take k).drop j := by
    have := (List.take_append_drop j (b.take k)).symm
    rwa [List.take_take, Nat.min_eq_left h2] at this
  calc (b.take k).drop a = (b.take j ++ (b.take k).drop j).drop a := by rw [← e]
    _ = _ := by rw [List.drop_append_of_le_length (by rw [List.length_take]; omega)]
theorem Cn.rep {α : Type} {p : xb α} {enc : α → List UInt8} (h : Cn p enc) : ∀ n b a l k, a ≤ b.length → yP p n b a = some (l, k) → ((a ≤ k ∧ k ≤ b.length) ∧ (b.take k).drop a = l.flatMap enc) ∧ l.length = n
  | 0, b, a, l, k, ha, hp => by
    simp only [yP, yM, Option.some.injEq, Prod.mk.injEq] at hp
    obtain ⟨rfl, rfl⟩ := hp
    exact ⟨⟨⟨Nat.le_refl _, ha⟩, by simp⟩, rfl⟩
  | n + 1, b, a, l, k, ha, hp => by
    obtain ⟨l', j, e1, hp⟩ := zW hp
    obtain ⟨x, i, e2, hp⟩ := zW hp
    simp only [yM, Option.some.injEq, Prod.mk.injEq] at hp
    obtain ⟨rfl, rfl⟩ := hp
    obtain ⟨⟨⟨a1, a2⟩, a3⟩, a4⟩ := Cn.rep h n b a l' j ha e1
    obtain ⟨⟨b1, b2⟩, b3⟩ := h b j x i a2 e2
    exact ⟨⟨⟨by omega, b2⟩, by rw [yt a1 b1 b2, a3, b3]; simp⟩, by simp [a4]⟩
theorem zIL : ∀ l : List UInt8, be (beN l) l.length = l
  | [] => rfl
  | c :: l => by
    have h1 := zDq l
    have hp : 0 < 256 ^ l.length := Nat.pow_pos (by omega)
    have hc := c.toNat_lt
    rw [List.length_cons, be, zEp, zCC]
    have e1 : (c.toNat * 256 ^ l.length + beN l) / 256 ^ l.length = c.toNat := by
      rw [Nat.mul_comm, Nat.mul_add_div hp, Nat.div_eq_of_lt h1]; omega
    have e2 : be (c.toNat * 256 ^ l.length + beN l) l.length = be (beN l) l.length := by
      have key : ∀ (k m n : Nat), k ≤ l.length → be (m * 256 ^ l.length + n) k = be n k := by
        intro k
        induction k with
        | zero => intros; rfl
        | succ k ih =>
          intro m n hk
          rw [be, be, ih m n (by omega), zEp]
          congr 1
          have : 256 ^ l.length = 256 ^ k * (256 * 256 ^ (l.length - k - 1)) := by
            rw [← Nat.mul_assoc, ← Nat.pow_succ, ← Nat.pow_add]; congr 1; omega
          rw [this, show m * (256 ^ k * (256 * 256 ^ (l.length - k - 1))) + n = 256 ^ k * (m * 256 ^ (l.length - k - 1) * 256) + n by rw [show m * (256 ^ k * (256 * 256 ^ (l.length - k - 1))) = 256 ^ k * (m * 256 ^ (l.length - k - 1) * 256) by ac_rfl], Nat.mul_add_div (Nat.pow_pos (by omega))]
          apply UInt8.toNat_inj.1
          simp
      exact key _ _ _ (Nat.le_refl _)
    rw [e1, e2, zIL l]; simp
theorem zEE {l : List UInt8} (h : l = [] ∨ zI l 0 ≠ 0) : yB (beN l) = l.length := by
  rcases l with _ | ⟨c, l⟩
  · rfl
  · have hc : c ≠ 0 := by rcases h with h | h; cases h; exact h
    have hc0 : 0 < c.toNat := Nat.pos_of_ne_zero fun q => hc (UInt8.toNat_inj.1 q)
    have hp : 0 < 256 ^ l.length := Nat.pow_pos (by omega)
    have h1 := zDq (c :: l)
    have h2 : 256 ^ l.length ≤ beN (c :: l) := by rw [zCC]; have := Nat.mul_le_mul_right (256 ^ l.length) hc0; omega
    have h3 := zAn (beN (c :: l))
    have h4 : beN (c :: l) < 2 ^ (8 * (l.length + 1)) := by rw [zEp]; exact h1
    have h5 := xS h4
    have h6 : yB (beN (c :: l)) ≤ l.length + 1 := by unfold yB; omega
    have h7 : l.length < yB (beN (c :: l)) := by
      refine Nat.lt_of_not_le fun q => ?_
      have := Nat.pow_le_pow_right (n := 256) (by omega) q
      omega
    rw [List.length_cons]; omega
theorem xc : Cn yC z2 := fun b a x k ha hp => by
  have hs := zu hp
  refine ⟨⟨by omega, hs.2.1⟩, ?_⟩
  unfold yC at hp
  rw [Option.map_eq_some_iff] at hp
  obtain ⟨⟨n, m⟩, h1, h2⟩ := hp
  simp only [Prod.mk.injEq] at h2
  obtain ⟨rfl, rfl⟩ := h2
  have e : (b.take (a + m)).drop a = (b.drop a).take m := by rw [List.drop_take]; congr 1; omega
  rw [e]
  generalize b.drop a = l at h1
  unfold zAX at h1
  split at h1
  · cases h1
  · rename_i h0
    split at h1
    · cases h1
    · rename_i h2
      split at h1
      · cases h1
      · rename_i h3
        simp only [Option.some.injEq, Prod.mk.injEq] at h1
        obtain ⟨rfl, rfl⟩ := h1
        rcases l with _ | ⟨c, l⟩
        · exact absurd rfl h0
        · have e0 : zI (c :: l) 0 = c := rfl
          rw [e0] at h2 h3 ⊢
          have e1 : ((c :: l).take (1 + c.toNat)) = c :: l.take c.toNat := by rw [Nat.add_comm]; rfl
          rw [e1]
          show c :: l.take c.toNat = z2 (beN (l.take c.toNat))
          simp only [List.length_cons] at h3
          have hl : (l.take c.toNat).length = c.toNat := by rw [List.length_take]; omega
          have hb : yB (beN (l.take c.toNat)) = c.toNat := by
            rw [zEE, hl]
            rcases Nat.eq_zero_or_pos c.toNat with hz | hz
            · left; rw [hz]; rfl
            · right; intro q
              rcases l with _ | ⟨d, l⟩
              · simp at h3; omega
              · obtain ⟨c', hc'⟩ : ∃ c', c.toNat = c' + 1 := ⟨c.toNat - 1, by omega⟩
                rw [hc'] at q
                have hd : d = 0 := q
                exact h2 (.inr ⟨⟨by simp, hz⟩, by show d.toNat = 0; rw [hd]; rfl⟩)
          unfold z2
          rw [hb]
          have := zIL (l.take c.toNat)
          rw [hl] at this
          rw [this]; simp
theorem zCc : Cn yi jj := fun b a x k ha hp => by
  simp only [yi, Option.bind_eq_some_iff] at hp
  obtain ⟨⟨n, j⟩, h1, h2⟩ := hp
  obtain ⟨⟨a1, a2⟩, a3⟩ := xc b a n j ha h1
  dsimp only at h2
  split at h2
  · cases h2
  · simp only [Option.some.injEq, Prod.mk.injEq] at h2
    obtain ⟨rfl, rfl⟩ := h2
    refine ⟨⟨by omega, by omega⟩, ?_⟩
    rw [yt a1 (by omega) (by omega), a3]
    have : ((b.take (j + n)).drop j).length = n := by rw [List.length_drop, List.length_take]; omega
    simp only [jj, this]
theorem cn_bud : Cn ju zCh := fun b a x k ha hp => by
  obtain ⟨d, j, e1, hp⟩ := zW hp
  obtain ⟨m, i, e2, hp⟩ := zW hp
  simp only [yM, Option.some.injEq, Prod.mk.injEq] at hp
  obtain ⟨rfl, rfl⟩ := hp
  obtain ⟨⟨a1, a2⟩, a3⟩ := zCc b a d j ha e1
  obtain ⟨⟨b1, b2⟩, b3⟩ := xc b j m i a2 e2
  refine ⟨⟨by omega, b2⟩, ?_⟩
  rw [yt a1 b1 b2, a3, b3]
  simp only [zCh, zAK (zu e2).1]
  rfl
theorem cn_lea : Cn jb zBY := fun b a x k ha hp => by
  obtain ⟨i, j1, e1, hp⟩ := zW hp
  obtain ⟨s, j2, e2, hp⟩ := zW hp
  obtain ⟨d, j3, e3, hp⟩ := zW hp
  obtain ⟨m, j4, e4, hp⟩ := zW hp
  obtain ⟨u, j5, e5, hp⟩ := zW hp
  simp only [yM, Option.some.injEq, Prod.mk.injEq] at hp
  obtain ⟨rfl, rfl⟩ := hp
  obtain ⟨⟨a1, a2⟩, a3⟩ := xc b a i j1 ha e1
  obtain ⟨⟨b1, b2⟩, b3⟩ := xc b j1 s j2 a2 e2
  obtain ⟨⟨c1, c2⟩, c3⟩ := zCc b j2 d j3 b2 e3
  obtain ⟨⟨d1, d2⟩, d3⟩ := xc b j3 m j4 c2 e4
  obtain ⟨⟨f1, f2⟩, f3⟩ := xc b j4 u j5 d2 e5
  refine ⟨⟨by omega, f2⟩, ?_⟩
  rw [yt a1 (show j1 ≤ j5 by omega) f2, yt b1 (show j2 ≤ j5 by omega) f2, yt c1 (show j3 ≤ j5 by omega) f2, yt d1 f1 f2, a3, b3, c3, d3, f3]
  simp only [zBY, zAK (zu e4).1, zAK (zu e5).1, List.append_assoc]
  rfl
theorem zD1 {most n k a : Nat} {b : List UInt8} (h : jf most b a = some (n, k)) : yC b a = some (n, k) := (zAk h).1
theorem zEy {b : List UInt8} {r : RepD} (h : kj b = some r) : r.enc = b ∧ r.wf ∧ r.ok := by
  unfold kj jN at h
  simp only [Option.bind_eq_some_iff] at h
  obtain ⟨⟨x, j⟩, hp, h2⟩ := h
  dsimp only at h2
  split at h2
  · rename_i hc
    simp only [Option.some.injEq] at h2
    subst h2
    obtain ⟨s, j1, e1, hp⟩ := zW hp
    obtain ⟨q, j2, e2, hp⟩ := zW hp
    obtain ⟨o, j3, e3, hp⟩ := zW hp
    obtain ⟨l, j4, e4, hp⟩ := zW hp
    obtain ⟨m, j5, e5, hp⟩ := zW hp
    obtain ⟨u, j6, e6, hp⟩ := zW hp
    simp only [yM, Option.some.injEq, Prod.mk.injEq] at hp
    obtain ⟨rfl, rfl⟩ := hp
    obtain ⟨o', j3', e3', hp⟩ := zW e3
    simp only [yM, Option.some.injEq, Prod.mk.injEq] at hp
    obtain ⟨rfl, rfl⟩ := hp
    have e3 := zD1 e3'
    obtain ⟨⟨a1, a2⟩, a3⟩ := xc b 0 s j1 (Nat.zero_le _) e1
    obtain ⟨⟨b1, b2⟩, b3⟩ := xc b j1 q j2 a2 e2
    obtain ⟨⟨c1, c2⟩, c3⟩ := xc b j2 o' j3' b2 e3
    obtain ⟨⟨d1, d2⟩, d3⟩ := xc b j3' l j4 c2 e4
    obtain ⟨⟨f1, f2⟩, f3⟩ := xc b j4 m j5 d2 e5
    obtain ⟨⟨g1, g2⟩, g3⟩ := xc b j5 u j6 f2 e6
    have hw : RepD.wf ⟨s, q, (o' : Int), l, yG m, yG u⟩ := ⟨(zu e1).1, (zu e2).1, (zu e4).1, xp (zu e5).1, xp (zu e6).1⟩
    refine ⟨?_, hw, hc.2⟩
    have hb : (b.take j6).drop 0 = b := by rw [hc.1]; simp
    rw [yt a1 (show j1 ≤ j6 by omega) g2, yt b1 (show j2 ≤ j6 by omega) g2, yt c1 (show j3' ≤ j6 by omega) g2, yt d1 (show j4 ≤ j6 by omega) g2, yt f1 g1 g2, a3, b3, c3, d3, f3, g3] at hb
    rw [← hb]
    have ho := (zu e3).1
    have ho2 : u64 (o' : Int) = o' := by unfold u64; omega
    simp only [RepD.enc, yj, List.flatMap_cons, List.flatMap_nil, zAK (zu e5).1, zAK (zu e6).1, ho2, List.append_nil]
  · cases h2
theorem zA6 {b : List UInt8} {a k : Nat} {x : RepD} (h : xl b a = some (x, k)) : ∃ d, yi b a = some (d, k) ∧ kj d = some x := by
  simp only [xl, Option.bind_eq_some_iff, Option.map_eq_some_iff] at h
  obtain ⟨⟨d, j⟩, h1, r, h2, h3⟩ := h
  simp only [Prod.mk.injEq] at h3
  obtain ⟨rfl, rfl⟩ := h3
  exact ⟨d, h1, h2⟩
theorem cn_one : Cn xl fun r => jj r.enc := fun b a x k ha hp => by
  obtain ⟨d, h1, h2⟩ := zA6 hp
  obtain ⟨a1, a2⟩ := zCc b a d k ha h1
  refine ⟨a1, ?_⟩
  rw [a2]
  show jj d = jj x.enc
  rw [(zEy h2).1]
theorem zBs {α : Type} {p : xb α} {P : α → Prop} (h : ∀ b a x k, p b a = some (x, k) → P x) : ∀ n b a l k, yP p n b a = some (l, k) → ∀ x ∈ l, P x
  | 0, b, a, l, k, hp => by
    simp only [yP, yM, Option.some.injEq, Prod.mk.injEq] at hp
    obtain ⟨rfl, _⟩ := hp; intro x hx; cases hx
  | n + 1, b, a, l, k, hp => by
    obtain ⟨l', j, e1, hp⟩ := zW hp
    obtain ⟨y, i, e2, hp⟩ := zW hp
    simp only [yM, Option.some.injEq, Prod.mk.injEq] at hp
    obtain ⟨rfl, rfl⟩ := hp
    intro x hx
    rcases List.mem_append.1 hx with hx | hx
    · exact zBs h n b a l' j e1 x hx
    · rw [List.mem_singleton.1 hx]; exact h _ _ _ _ e2
theorem LedRead.back {d : List UInt8} {x : LedX} (h : LedRead d x) : d = yc x.idx x.now x.cnt x.bs x.ls x.rs ∧ x.idx < 18446744073709551616 ∧ x.cnt < 18446744073709551616 ∧ (∀ b ∈ x.bs, xD b.amount) ∧ (∀ l ∈ x.ls, xD l.amount ∧ xD l.until_ ∧ l.session < 18446744073709551616) ∧ ∀ r ∈ x.rs, r.wf ∧ r.ok := by
  obtain ⟨r, hp⟩ := h
  obtain ⟨i, j1, e1, hp⟩ := zW hp
  obtain ⟨t, j2, e2, hp⟩ := zW hp
  obtain ⟨c, j3, e3, hp⟩ := zW hp
  obtain ⟨bs, j5, e5, hp⟩ := zW hp
  obtain ⟨ls, j7, e7, hp⟩ := zW hp
  obtain ⟨rs, j8, e8, hp⟩ := zW hp
  simp only [yM, Option.some.injEq, Prod.mk.injEq] at hp
  obtain ⟨rfl, rfl⟩ := hp
  obtain ⟨n, j4, e4, e5⟩ := zW e5
  obtain ⟨m, j6, e6, e7⟩ := zW e7
  obtain ⟨⟨a1, a2⟩, a3⟩ := xc d 0 i j1 (Nat.zero_le _) e1
  obtain ⟨⟨b1, b2⟩, b3⟩ := xc d j1 t j2 a2 e2
  obtain ⟨⟨c1, c2⟩, c3⟩ := xc d j2 c j3 b2 e3
  obtain ⟨⟨d1, d2⟩, d3⟩ := xc d j3 n j4 c2 e4
  obtain ⟨⟨⟨f1, f2⟩, f3⟩, f4⟩ := cn_bud.rep n d j4 bs j5 d2 e5
  obtain ⟨⟨g1, g2⟩, g3⟩ := xc d j5 m j6 f2 e6
  obtain ⟨⟨⟨h1, h2⟩, h3⟩, h4⟩ := cn_lea.rep m d j6 ls j7 g2 e7
  obtain ⟨⟨⟨i1, i2⟩, i3⟩, i4⟩ := cn_one.rep r d j7 rs d.length h2 e8
  refine ⟨?_, (zu e1).1, (zu e3).1, zBs ?_ _ _ _ _ _ e5, zBs ?_ _ _ _ _ _ e7, zBs ?_ _ _ _ _ _ e8⟩
  · have hb : (d.take d.length).drop 0 = d := by simp
    rw [yt a1 (show j1 ≤ d.length by omega) (Nat.le_refl _), yt b1 (show j2 ≤ d.length by omega) (Nat.le_refl _), yt c1 (show j3 ≤ d.length by omega) (Nat.le_refl _), yt d1 (show j4 ≤ d.length by omega) (Nat.le_refl _),
      yt f1 (show j5 ≤ d.length by omega) (Nat.le_refl _), yt g1 (show j6 ≤ d.length by omega) (Nat.le_refl _), yt h1 (show j7 ≤ d.length by omega) (Nat.le_refl _), a3, b3, c3, d3, f3, g3, h3, i3] at hb
    rw [← hb]
    simp only [yc, zCx, zCn, zCw, zAK (zu e2).1, ← f4, ← h4, List.take_length, List.append_assoc]
  · intro b a x k hp
    obtain ⟨_, _, _, hp⟩ := zW hp
    obtain ⟨_, _, e, hp⟩ := zW hp
    simp only [yM, Option.some.injEq, Prod.mk.injEq] at hp
    obtain ⟨rfl, _⟩ := hp
    exact xp (zu e).1
  · intro b a x k hp
    obtain ⟨_, _, _, hp⟩ := zW hp
    obtain ⟨_, _, q1, hp⟩ := zW hp
    obtain ⟨_, _, _, hp⟩ := zW hp
    obtain ⟨_, _, q2, hp⟩ := zW hp
    obtain ⟨_, _, q3, hp⟩ := zW hp
    simp only [yM, Option.some.injEq, Prod.mk.injEq] at hp
    obtain ⟨rfl, _⟩ := hp
    exact ⟨xp (zu q2).1, xp (zu q3).1, (zu q1).1⟩
  · intro b a x k hp
    obtain ⟨d, _, h⟩ := zA6 hp
    exact (zEy h).2
theorem zDS {b : List UInt8} {a k : Nat} {x : RepD} (h : xl b a = some (x, k)) : a < k ∧ k ≤ b.length := by
  obtain ⟨d, h1, _⟩ := zA6 h
  have hk := (kM h1).1
  simp only [yi, Option.bind_eq_some_iff] at h1
  obtain ⟨⟨n, j⟩, h1, h2⟩ := h1
  have := (zu h1).2.2
  dsimp only at h2
  split at h2
  · cases h2
  · simp only [Option.some.injEq, Prod.mk.injEq] at h2
    omega
theorem zFQ {α : Type} {p : xb α} {b : List UInt8} {a r k : Nat} {v : List α × Nat} (h : yP p r b a = some v) (hk : k ≤ r) : ∃ q, yP p k b a = some q := by
  cases e : yP p k b a with
  | some q => exact ⟨q, rfl⟩
  | none => rw [zC7 e r hk] at h; cases h
theorem zG0 {b : List UInt8} {a r k at_ : Nat} {rs v : List RepD} (h : yP xl r b a = some (v, b.length)) (hk : yP xl k b a = some (rs, at_)) (hr : k ≤ r) (ha : at_ < b.length) : k + 1 ≤ r := by
  rcases Nat.lt_or_ge k r with q | q
  · exact q
  · have e : k = r := by omega
    rw [e, h] at hk
    simp only [Option.some.injEq, Prod.mk.injEq] at hk
    omega
theorem zEe {b : List UInt8} {a r k at_ : Nat} {rs v : List RepD} (h : yP xl r b a = some (v, b.length)) (hk : yP xl k b a = some (rs, at_)) (hr : r < k) : False := by
  obtain ⟨q, hq⟩ := zFQ hk (show r + 1 ≤ k by omega)
  obtain ⟨_, _, e1, hq⟩ := zW (v := q.1) (k := q.2) hq
  rw [h] at e1
  simp only [Option.some.injEq, Prod.mk.injEq] at e1
  obtain ⟨rfl, rfl⟩ := e1
  obtain ⟨_, _, e2, _⟩ := zW hq
  have := zDS e2
  omega
theorem LedRead.one {d : List UInt8} {x y : LedX} (hx : LedRead d x) (hy : LedRead d y) : x = y := by
  obtain ⟨r, hp⟩ := hx
  obtain ⟨r', hq⟩ := hy
  have hr : r = r' := by
    obtain ⟨i, j1, e1, hp⟩ := zW hp
    obtain ⟨t, j2, e2, hp⟩ := zW hp
    obtain ⟨c, j3, e3, hp⟩ := zW hp
    obtain ⟨bs, j5, e5, hp⟩ := zW hp
    obtain ⟨ls, j7, e7, hp⟩ := zW hp
    obtain ⟨rs, j8, e8, hp⟩ := zW hp
    simp only [yM, Option.some.injEq, Prod.mk.injEq] at hp
    obtain ⟨_, rfl⟩ := hp
    simp only [zLN, zk, e1, e2, e3, Option.bind_some] at hq
    have e5' : (yC d j3).bind (fun r => yP ju r.1 d r.2) = some (bs, j5) := e5
    have e7' : (yC d j5).bind (fun r => yP jb r.1 d r.2) = some (ls, j7) := e7
    rw [e5'] at hq
    simp only [Option.bind_some] at hq
    rw [e7'] at hq
    simp only [Option.bind_some, Option.bind_eq_some_iff] at hq
    obtain ⟨⟨rs', k⟩, f1, hq⟩ := hq
    simp only [yM, Option.some.injEq, Prod.mk.injEq] at hq
    obtain ⟨_, rfl⟩ := hq
    rcases Nat.lt_trichotomy r r' with q | q | q
    · exact (zEe e8 f1 q).elim
    · exact q
    · exact (zEe f1 e8 q).elim
  subst hr
  rw [hp] at hq
  simp only [Option.some.injEq, Prod.mk.injEq] at hq
  exact hq.1
theorem zDM {b d : List UInt8} {a k : Nat} (h : yi b a = some (d, k)) : a < k := by
  simp only [yi, Option.bind_eq_some_iff] at h
  obtain ⟨⟨n, j⟩, h1, h2⟩ := h
  have := (zu h1).2.2
  dsimp only at h2
  split at h2
  · cases h2
  · simp only [Option.some.injEq, Prod.mk.injEq] at h2; omega
theorem zFi {b : List UInt8} {a k : Nat} {x : BudD} (h : ju b a = some (x, k)) : a < k := by
  obtain ⟨_, j, e1, h⟩ := zW h
  obtain ⟨_, i, e2, h⟩ := zW h
  simp only [yM, Option.some.injEq, Prod.mk.injEq] at h
  have := zDM e1; have := (zu e2).2.2; omega
theorem zDv {b : List UInt8} {a k : Nat} {x : LeaD} (h : jb b a = some (x, k)) : a < k := by
  obtain ⟨_, _, e1, h⟩ := zW h
  obtain ⟨_, _, e2, h⟩ := zW h
  obtain ⟨_, _, e3, h⟩ := zW h
  obtain ⟨_, _, e4, h⟩ := zW h
  obtain ⟨_, _, e5, h⟩ := zW h
  simp only [yM, Option.some.injEq, Prod.mk.injEq] at h
  have := (zu e1).2.2; have := (zu e2).2.2; have := zDM e3; have := (zu e4).2.2; have := (zu e5).2.2; omega
def Few (n at_ : Nat) (bad : Bool) (len : Nat) : Prop := (bad = false → n ≤ at_) ∧ n ≤ len + 1
theorem Few.start (a : Nat) (bad : Bool) (len : Nat) : Few 0 a bad len := ⟨fun _ => Nat.zero_le _, Nat.zero_le _⟩
theorem Few.next {α : Type} {p : xb α} {b : List UInt8} {a a' n : Nat} {bad' : Bool} {x : α} (h : Few n a false b.length) (ha : a ≤ b.length) (hp : ∀ x k, p b a = some (x, k) → a < k) (hr : RdS p b a false x a' bad') : Few (n + 1) a' bad' b.length :=
  ⟨fun q => by have := hp _ _ (hr.good q).2; have := h.1 rfl; omega, by have := h.1 rfl; omega⟩
theorem RdS.loop {α : Type} {p : xb α} {b : List UInt8} {a a1 a2 n k : Nat} {bad bad1 bad2 : Bool} {l : List α} (h1 : RdS yC b a bad n a1 bad1) (h2 : RdS (yP p l.length) b a1 bad1 l a2 bad2) (hk : k + l.length = n) (c : ¬ (((0 : Nat) : Int) < ((k : Nat) : Int) ∧ (!bad2) = true)) : RdS (zk yC (yP p)) b a bad l a2 bad2 := by
  refine h1.bind ?_
  cases hb : bad2 with
  | true => rw [hb] at h2; exact h2.stop (by omega)
  | false => have e : k = 0 := by rcases Nat.eq_zero_or_pos k with q | q; exact q; exact absurd ⟨by omega, by rw [hb]; rfl⟩ c
             rw [show n = l.length by omega]; rw [hb] at h2; exact h2
theorem RdS.one {b d : List UInt8} {a a1 : Nat} {bad bad1 : Bool} {x : RepD} {e : Int} (h1 : RdS yi b a bad d a1 bad1) (h2 : ValPost (kj d) x zIh e) : RdS xl b a bad x a1 (decide (bad1 = true ∨ e ≠ 0)) := by
  refine ⟨h1.le, fun h => decide_eq_true (.inl (h1.st h)), fun v k hb hp => ?_, fun hb hp => ?_⟩
  · obtain ⟨d', e1, e2⟩ := zA6 hp
    obtain ⟨q1, rfl, rfl⟩ := h1.ok d' k hb e1
    rcases h2 with ⟨r1, r2⟩ | ⟨_, r2, _⟩
    · rw [e2] at r2; cases r2
      exact ⟨decide_eq_false (by rintro (q | q); rw [q1] at q; cases q; exact q r1), rfl, rfl⟩
    · rw [e2] at r2; cases r2
  · refine decide_eq_true ?_
    cases hq : yi b a with
    | none => exact .inl (h1.no hb hq)
    | some q =>
      obtain ⟨d', k⟩ := q
      obtain ⟨_, rfl, rfl⟩ := h1.ok d' k hb hq
      have hn : kj d = none := by
        cases hr : kj d with
        | none => rfl
        | some r => simp only [xl, hq, Option.bind_some, hr, Option.map_some] at hp; cases hp
      rcases h2 with ⟨_, r2⟩ | ⟨r1, _, _⟩
      · rw [hn] at r2; cases r2
      · exact .inr (by rw [r1]; decide)
theorem zLC {d : List UInt8} {x : RepD} {e : Int} (h : ValPost (kj d) x zIh e) : x.wf := by
  rcases h with ⟨_, h⟩ | ⟨_, _, rfl⟩
  · exact (zEy h).2.1
  · exact ⟨by decide, by decide, by decide, by unfold xD; decide, by unfold xD; decide⟩
def Reach (b : List UInt8) (a n : Nat) : Prop := ∀ r v, yP xl r b a = some (v, b.length) → n ≤ r
theorem Reach.next {b : List UInt8} {a at_ : Nat} {bad : Bool} {rs : List RepD} (h : Reach b a rs.length) (h1 : RdS (yP xl rs.length) b a bad rs at_ false) (ha : at_ < b.length) : Reach b a (rs.length + 1) := fun r v hp =>
  zG0 hp (h1.good rfl).2 (h r v hp) ha
def zJu (idx : Nat) (now : Int) (cnt : Nat) (kb : List (ByteArray × Int)) (kl : List (Nat × LeaD)) (kr : List (Nat × RepD)) (d : List UInt8) (er : Int) (idx' : Nat) (now' : Int) (cnt' : Nat) (kb' : List (ByteArray × Int)) (kl' : List (Nat × LeaD)) (kr' : List (Nat × RepD)) : Prop :=
  (er = 0 ∧ ∃ x : LedX, (LedRead d x ∧ LoadOk x.now x.cnt x.bs x.ls ∧ COk x.rs) ∧ idx' = x.idx ∧ now' = x.now ∧ cnt' = x.cnt ∧ kb' = KB x.bs ∧ kl' = KL x.ls ∧ kr' = KR x.rs)
  ∨ (er = 4 ∧ (∀ x, LedRead d x → ¬ (LoadOk x.now x.cnt x.bs x.ls ∧ COk x.rs)) ∧ idx' = idx ∧ now' = now ∧ cnt' = cnt ∧ kb' = kb ∧ kl' = kl ∧ kr' = kr)
section
variable {d : List UInt8} {i t c a1 a2 a3 a5 a7 a8 : Nat} {b1 b2 b3 b5 b7 b8 : Bool} {bs : List BudD} {ls : List LeaD} {rs : List RepD}
theorem zFZ (h1 : RdS yC d 0 false i a1 b1) (h2 : RdS yC d a1 b1 t a2 b2) (h3 : RdS yC d a2 b2 c a3 b3) (h5 : RdS (zk yC (yP ju)) d a3 b3 bs a5 b5) (h7 : RdS (zk yC (yP jb)) d a5 b5 ls a7 b7) (h8 : RdS (yP xl rs.length) d a7 b7 rs a8 b8)
    (hb : b8 = false) (ha : ¬ a8 < d.length) : LedRead d ⟨i, yG t, c, bs, ls, rs⟩ := by
  refine ⟨rs.length, ?_⟩
  have h := h1.bind (q := fun i => zk yC fun t => zk yC fun c => zk (zk yC (yP ju)) fun bs => zk (zk yC (yP jb)) fun ls => zk (yP xl rs.length) fun rs => yM (⟨i, yG t, c, bs, ls, rs⟩ : LedX))
    (h2.bind (q := fun t => zk yC fun c => zk (zk yC (yP ju)) fun bs => zk (zk yC (yP jb)) fun ls => zk (yP xl rs.length) fun rs => yM (⟨i, yG t, c, bs, ls, rs⟩ : LedX))
      (h3.bind (q := fun c => zk (zk yC (yP ju)) fun bs => zk (zk yC (yP jb)) fun ls => zk (yP xl rs.length) fun rs => yM (⟨i, yG t, c, bs, ls, rs⟩ : LedX))
        (h5.bind (q := fun bs => zk (zk yC (yP jb)) fun ls => zk (yP xl rs.length) fun rs => yM (⟨i, yG t, c, bs, ls, rs⟩ : LedX))
          (h7.bind (q := fun ls => zk (yP xl rs.length) fun rs => yM (⟨i, yG t, c, bs, ls, rs⟩ : LedX)) (h8.map fun rs => (⟨i, yG t, c, bs, ls, rs⟩ : LedX))))))
  have e : a8 = d.length := by have := h8.le; omega
  rw [e] at h
  exact (h.good hb).2
theorem zKm (h1 : RdS yC d 0 false i a1 b1) (h2 : RdS yC d a1 b1 t a2 b2) (h3 : RdS yC d a2 b2 c a3 b3) (h5 : RdS (zk yC (yP ju)) d a3 b3 bs a5 b5) (h7 : RdS (zk yC (yP jb)) d a5 b5 ls a7 b7) (h8 : RdS (yP xl rs.length) d a7 b7 rs a8 b8) (hr : Reach d a7 rs.length)
    (hb : b8 = true) : ∀ x, ¬ LedRead d x := by
  rintro x ⟨r, hp⟩
  obtain ⟨i', j1, e1, hp⟩ := zW hp
  obtain ⟨t', j2, e2, hp⟩ := zW hp
  obtain ⟨c', j3, e3, hp⟩ := zW hp
  obtain ⟨bs', j5, e5, hp⟩ := zW hp
  obtain ⟨ls', j7, e7, hp⟩ := zW hp
  obtain ⟨rs', j8, e8, hp⟩ := zW hp
  simp only [yM, Option.some.injEq, Prod.mk.injEq] at hp
  obtain ⟨_, rfl⟩ := hp
  obtain ⟨f1, _, rfl⟩ := h1.ok _ _ rfl e1
  obtain ⟨f2, _, rfl⟩ := h2.ok _ _ f1 e2
  obtain ⟨f3, _, rfl⟩ := h3.ok _ _ f2 e3
  obtain ⟨f5, _, rfl⟩ := h5.ok _ _ f3 e5
  obtain ⟨f7, _, rfl⟩ := h7.ok _ _ f5 e7
  obtain ⟨q, hq⟩ := zFQ e8 (hr _ _ e8)
  obtain ⟨f8, _⟩ := h8.ok q.1 q.2 f7 hq
  rw [hb] at f8; cases f8
end
theorem RdS.bud {b k : List UInt8} {a a1 a2 m : Nat} {bad bad1 bad2 : Bool} (h1 : RdS yi b a bad k a1 bad1) (h2 : RdS yC b a1 bad1 m a2 bad2) : RdS ju b a bad ⟨x3 k, yG m⟩ a2 bad2 :=
  h1.bind (q := fun k => zk yC fun a => yM (⟨x3 k, yG a⟩ : BudD)) (h2.map fun a => (⟨x3 k, yG a⟩ : BudD))
theorem RdS.lea {b k : List UInt8} {a a1 a2 a3 a4 a5 i s m u : Nat} {bad bad1 bad2 bad3 bad4 bad5 : Bool} (h1 : RdS yC b a bad i a1 bad1) (h2 : RdS yC b a1 bad1 s a2 bad2) (h3 : RdS yi b a2 bad2 k a3 bad3) (h4 : RdS yC b a3 bad3 m a4 bad4) (h5 : RdS yC b a4 bad4 u a5 bad5) : RdS jb b a bad ⟨i, s, x3 k, yG m, yG u⟩ a5 bad5 :=
  h1.bind (q := fun i => zk yC fun s => zk yi fun k => zk yC fun a => zk yC fun u => yM (⟨i, s, x3 k, yG a, yG u⟩ : LeaD))
    (h2.bind (q := fun s => zk yi fun k => zk yC fun a => zk yC fun u => yM (⟨i, s, x3 k, yG a, yG u⟩ : LeaD))
      (h3.bind (q := fun k => zk yC fun a => zk yC fun u => yM (⟨i, s, x3 k, yG a, yG u⟩ : LeaD))
        (h4.bind (q := fun a => zk yC fun u => yM (⟨i, s, x3 k, yG a, yG u⟩ : LeaD)) (h5.map fun u => (⟨i, s, x3 k, yG m, yG u⟩ : LeaD)))))
theorem zEF {α : Type} {P : α → Prop} {l : List α} {x : α} (h : ∀ y ∈ l, P y) (hx : P x) : ∀ y ∈ l ++ [x], P y := fun y hy => by
  rcases List.mem_append.1 hy with hy | hy
  · exact h y hy
  · rw [List.mem_singleton.1 hy]; exact hx
theorem zKo {b : Bool} (h : (!b) = true) : b = false := by cases b <;> simp_all
theorem RdS.more {α : Type} {p : xb α} {P : α → Prop} {b : List UInt8} {a a1 a2 n k : Nat} {bad bad1 bad2 : Bool} {l : List α} {x : α} (hk : k + l.length = n) (h1 : RdS (yP p l.length) b a bad l a1 bad1) (hf : Few l.length a1 bad1 b.length) (hP : ∀ y ∈ l, P y)
    (c : ((0 : Nat) : Int) < ((k : Nat) : Int) ∧ (!bad1) = true) (hx : RdS p b a1 bad1 x a2 bad2) (hp : ∀ x k, p b a1 = some (x, k) → a1 < k) (hPx : P x) : k - 1 + (l ++ [x]).length = n ∧ RdS (yP p (l ++ [x]).length) b a bad (l ++ [x]) a2 bad2 ∧ Few (l ++ [x]).length a2 bad2 b.length ∧ ∀ y ∈ l ++ [x], P y := by
  have hb := zKo c.2
  have e : (l ++ [x]).length = l.length + 1 := by simp
  rw [e]
  refine ⟨by omega, h1.snoc hx, ?_, zEF hP hPx⟩
  subst hb
  exact hf.next h1.le hp hx
theorem RdS.more3 {d : List UInt8} {a a1 a2 : Nat} {bad bad1 bad2 : Bool} {rs : List RepD} {x : RepD} (h1 : RdS (yP xl rs.length) d a bad rs a1 bad1) (hq : Reach d a rs.length) (hf : Few rs.length a1 bad1 d.length) (hw : ∀ r ∈ rs, r.wf)
    (c : (!bad1) = true ∧ ((a1 : Nat) : Int) < ((d.length : Nat) : Int)) (hx : RdS xl d a1 bad1 x a2 bad2) (hxw : x.wf) : RdS (yP xl (rs ++ [x]).length) d a bad (rs ++ [x]) a2 bad2 ∧ Reach d a (rs ++ [x]).length ∧ Few (rs ++ [x]).length a2 bad2 d.length ∧ ∀ r ∈ rs ++ [x], r.wf := by
  have hb := zKo c.1
  have e : (rs ++ [x]).length = rs.length + 1 := by simp
  rw [e]
  subst hb
  exact ⟨h1.snoc hx, hq.next h1 (by omega), hf.next h1.le (fun _ _ q => (zDS q).1) hx, zEF hw hxw⟩
theorem zHv {d : List UInt8} {a1 a2 : Nat} {bad1 bad2 : Bool} {x : RepD} (c : (!bad1) = true ∧ ((a1 : Nat) : Int) < ((d.length : Nat) : Int)) (hx : RdS xl d a1 bad1 x a2 bad2) : (if bad2 = true then 0 else d.length - a2 + 1) < if bad1 = true then 0 else d.length - a1 + 1 := by
  have hb := zKo c.1
  subst hb
  rw [if_neg (show ¬ false = true by decide)]
  split
  · omega
  · rename_i h
    have h2 := zDS (hx.good (by cases bad2; rfl; exact absurd rfl h)).2
    omega
theorem zB0 {A B : Prop} {e : Int} (h : (e = 0 ∧ A) ∨ (e = 2 ∧ B)) (he : ¬ e ≠ 0) : A := by
  rcases h with h | h
  · exact h.2
  · rw [h.1] at he; exact absurd (by decide) he
theorem zJq {A B : Prop} {e : Int} (h : (e = 0 ∧ A) ∨ (e = 2 ∧ B)) (he : e ≠ 0) : B := by
  rcases h with h | h
  · exact absurd h.1 he
  · exact h.2
theorem zFj {d : List UInt8} {y : LedX} (h : LedRead d y) (hn : ¬ (LoadOk y.now y.cnt y.bs y.ls ∧ COk y.rs)) : ∀ x, LedRead d x → ¬ (LoadOk x.now x.cnt x.bs x.ls ∧ COk x.rs) := fun x hx => by
  rw [hx.one h]; exact hn
end Go.Proofs.YthincafbmpialaaGreat
