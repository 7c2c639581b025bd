import Derived.Test.YthincafbmpialaaGreatLedA
import Derived.Test.YthincafbmpialaaGreatLedRt
set_option linter.unusedSectionVars false
set_option linter.unusedSimpArgs false
set_option linter.unusedVariables false
set_option maxRecDepth 10000
namespace Go.Proofs.YthincafbmpialaaGreat
open Go Go.Sc Go.Proofs
def zC3 (x : BudD) : List UInt8 := dat (zBE x.key) ++ yH (u64 x.amount)
def zBf (x : LeaD) : List UInt8 := yH x.id ++ yH x.session ++ dat (zBE x.key) ++ yH (u64 x.amount) ++ yH (u64 x.until_)
def zDJ (idx : Nat) (now : Int) (cnt : Nat) (bs : List BudD) (i : Nat) : List UInt8 := yH idx ++ yH (u64 now) ++ yH cnt ++ yH bs.length ++ (bs.take i).flatMap zC3
def zDI (idx : Nat) (now : Int) (cnt : Nat) (bs : List BudD) (ls : List LeaD) (i : Nat) : List UInt8 := zDJ idx now cnt bs bs.length ++ yH ls.length ++ (ls.take i).flatMap zBf
def zDL (idx : Nat) (now : Int) (cnt : Nat) (bs : List BudD) (ls : List LeaD) (rs : List RepD) (i : Nat) : List UInt8 := zDI idx now cnt bs ls ls.length ++ (rs.take i).flatMap fun r => dat r.enc
def xS (idx : Nat) (now : Int) (cnt : Nat) (bs : List BudD) (ls : List LeaD) (rs : List RepD) : List UInt8 := zDL idx now cnt bs ls rs rs.length
theorem zAf {α : Type} {f : α → List UInt8} {c : Nat} : ∀ {l : List α}, (∀ x ∈ l, (f x).length ≤ c) → (l.flatMap f).length ≤ c * l.length
  | [], _ => by simp
  | x :: l, h => by
    have h1 := h x List.mem_cons_self
    have h2 := zAf (l := l) fun y hy => h y (List.mem_cons_of_mem _ hy)
    simp only [List.flatMap_cons, List.length_append, List.length_cons, Nat.mul_add]
    omega
theorem zHn {x : BudD} (h : yY x.key) : (zC3 x).length ≤ 82 := by
  have h1 := xN (y3 x.amount)
  have h2 : (yH x.key.size).length ≤ 9 := xN (by have := h.2; omega)
  have := h.2
  simp only [zC3, dat, List.length_append, kK]; omega
theorem zIA {x : LeaD} (h : yY x.key) (hi : x.id < 18446744073709551616) (hs : x.session < 18446744073709551616) : (zBf x).length ≤ 109 := by
  have h1 := xN (y3 x.amount)
  have h2 : (yH x.key.size).length ≤ 9 := xN (by have := h.2; omega)
  have h3 := xN (y3 x.until_)
  have h4 := xN hi
  have h5 := xN hs
  have := h.2
  simp only [zBf, dat, List.length_append, kK]; omega
theorem zCm {x : RepD} (h : x.wf) : (dat x.enc).length ≤ 63 := by
  have h1 : x.enc.length ≤ 54 := xw (ns := [x.session, x.seq, u64 x.e, x.lease, u64 x.amount, u64 x.until_]) (fun n hn => by
    simp only [List.mem_cons, List.not_mem_nil, or_false] at hn
    rcases hn with rfl | rfl | rfl | rfl | rfl | rfl
    · exact h.session
    · exact h.seq
    · exact y3 _
    · exact h.lease
    · exact y3 _
    · exact y3 _)
  have h2 : (yH x.enc.length).length ≤ 9 := xN (by omega)
  simp only [dat, List.length_append]; omega
theorem zDi {v : Value} {k : ByteArray} (h : yY k) : (yL [(v, k.data.toList)]).length ≤ 73 := by
  have h2 : (yH k.size).length ≤ 9 := xN (by have := h.2; omega)
  have h3 : k.data.toList.length = k.size := kK k
  have := h.2
  simp only [yL, List.flatMap_cons, List.flatMap_nil, List.append_nil, dat, List.length_append, h3]; omega
structure SOk (idx : Nat) (now : Int) (cnt : Nat) (bs : List BudD) (ls : List LeaD) (rs : List RepD) : Prop where
  q : QOk now cnt bs ls
  s : QSrt bs
  c : COk rs
  w : ∀ r ∈ rs, r.wf
  i : idx < 18446744073709551616
  n : cnt < 18446744073709551616
  a : ∀ l ∈ ls, l.session < 18446744073709551616
section
variable {idx : Nat} {now : Int} {cnt : Nat} {bs : List BudD} {ls : List LeaD} {rs : List RepD}
theorem SOk.lea (h : SOk idx now cnt bs ls rs) : ∀ x ∈ ls, yY x.key ∧ x.id < 18446744073709551616 ∧ x.session < 18446744073709551616 ∧ xM x.amount ∧ xM x.until_ := fun x hx => by
  have h0 := h.q.lok x hx
  have h1 := h.q.sums x.key
  have h2 := jh (k := x.key) (List.singleton_sublist.2 hx) h.q.pos
  have h3 := h.q.time
  have h4 := h.n
  simp only [yq, if_true] at h2
  refine ⟨h0.2.2.2.2.2.2, by omega, h.a x hx, ?_, ?_⟩ <;> (unfold xM; omega)
theorem zEw (h : SOk idx now cnt bs ls rs) (i : Nat) : (zDJ idx now cnt bs i).length ≤ 5300 := by
  have h1 := xN h.i
  have h2 := xN (y3 now)
  have h3 := xN h.n
  have hb := h.q.blen
  have h4 : (yH bs.length).length ≤ 9 := xN (by omega)
  have h5 := zAf (l := bs.take i) (f := zC3) (c := 82) fun x hx => zHn (h.q.bpos x (List.mem_of_mem_take hx)).2.2
  have h6 : (bs.take i).length ≤ 64 := by rw [List.length_take]; omega
  simp only [zDJ, List.length_append]; omega
theorem zEj (h : SOk idx now cnt bs ls rs) (i : Nat) : (zDI idx now cnt bs ls i).length ≤ 19300 := by
  have h1 := zEw h bs.length
  have hb := h.q.llen
  have h4 : (yH ls.length).length ≤ 9 := xN (by omega)
  have h5 := zAf (l := ls.take i) (f := zBf) (c := 109) fun x hx => by
    have k := h.lea x (List.mem_of_mem_take hx)
    exact zIA k.1 k.2.1 k.2.2.1
  have h6 : (ls.take i).length ≤ 128 := by rw [List.length_take]; omega
  simp only [zDI, List.length_append]; omega
theorem zFa (h : SOk idx now cnt bs ls rs) (i : Nat) : (zDL idx now cnt bs ls rs i).length ≤ 21400 := by
  have h1 := zEj h ls.length
  have hb := h.c.len
  have h5 := zAf (l := rs.take i) (f := fun r => dat r.enc) (c := 63) fun x hx => zCm (h.w x (List.mem_of_mem_take hx))
  have h6 : (rs.take i).length ≤ 32 := by rw [List.length_take]; omega
  simp only [zDL, List.length_append]; omega
theorem zHc {i : Nat} (hi : i < bs.length) : zDJ idx now cnt bs (i + 1) = zDJ idx now cnt bs i ++ zC3 (zI bs i) := by
  simp only [zDJ, yE hi, List.flatMap_append, List.flatMap_cons, List.flatMap_nil, List.append_nil, List.append_assoc]
theorem zHQ {i : Nat} (hi : i < ls.length) : zDI idx now cnt bs ls (i + 1) = zDI idx now cnt bs ls i ++ zBf (zI ls i) := by
  simp only [zDI, yE hi, List.flatMap_append, List.flatMap_cons, List.flatMap_nil, List.append_nil, List.append_assoc]
theorem zHG {i : Nat} (hi : i < rs.length) : zDL idx now cnt bs ls rs (i + 1) = zDL idx now cnt bs ls rs i ++ dat (zI rs i).enc := by
  simp only [zDL, yE hi, List.flatMap_append, List.flatMap_cons, List.flatMap_nil, List.append_nil, List.append_assoc]
def zAS : xt BudD := zn yn fun k => zn yM fun a => yX ⟨kL k, yS a⟩
def jx : xt LeaD := zn yM fun i => zn yM fun s => zn yn fun k => zn yM fun a => zn yM fun u => yX ⟨i, s, kL k, yS a, yS u⟩
def x4 : xt RepD := fun b a => (yn b a).bind fun q => (k6 q.1).map fun r => (r, q.2)
structure LedX where
  idx : Nat
  now : Int
  cnt : Nat
  bs : List BudD
  ls : List LeaD
  rs : List RepD
def zMz (r : Nat) : xt LedX := zn yM fun i => zn yM fun t => zn yM fun c => zn (zn yM (yg zAS)) fun bs => zn (zn yM (yg jx)) fun ls => zn (yg x4 r) fun rs => yX ⟨i, yS t, c, bs, ls, rs⟩
def LedRead (d : List UInt8) (x : LedX) : Prop := ∃ r, zMz r d 0 = some (x, d.length)
theorem zGO (k : ByteArray) : kL (zBE k) = k := rfl
theorem zMk {x : BudD} (hk : yY x.key) (ha : xM x.amount) : Rt zAS x (zC3 x) := by
  have hl : (zBE x.key).length < 18446744073709551616 := by have := hk.2; rw [kK]; omega
  have h := (zCU hl).bind (q := fun k => zn yM fun a => yX (⟨kL k, yS a⟩ : BudD)) ((xo (y3 x.amount)).map fun a => (⟨kL (zBE x.key), yS a⟩ : BudD))
  rw [zAi ha, zGO] at h; exact h
theorem zL0 {x : LeaD} (hk : yY x.key) (hi : x.id < 18446744073709551616) (hs : x.session < 18446744073709551616) (ha : xM x.amount) (hu : xM x.until_) : Rt jx x (zBf x) := by
  have hl : (zBE x.key).length < 18446744073709551616 := by have := hk.2; rw [kK]; omega
  have h := (xo hi).bind (q := fun i => zn yM fun s => zn yn fun k => zn yM fun a => zn yM fun u => yX (⟨i, s, kL k, yS a, yS u⟩ : LeaD))
    ((xo hs).bind (q := fun s => zn yn fun k => zn yM fun a => zn yM fun u => yX (⟨x.id, s, kL k, yS a, yS u⟩ : LeaD))
      ((zCU hl).bind (q := fun k => zn yM fun a => zn yM fun u => yX (⟨x.id, x.session, kL k, yS a, yS u⟩ : LeaD))
        ((xo (y3 x.amount)).bind (q := fun a => zn yM fun u => yX (⟨x.id, x.session, kL (zBE x.key), yS a, yS u⟩ : LeaD))
          ((xo (y3 x.until_)).map fun u => (⟨x.id, x.session, kL (zBE x.key), yS (u64 x.amount), yS u⟩ : LeaD)))))
  rw [zAi ha, zAi hu, zGO] at h
  have e : zBf x = yH x.id ++ (yH x.session ++ (dat (zBE x.key) ++ (yH (u64 x.amount) ++ yH (u64 x.until_)))) := by simp [zBf]
  rw [e]; exact h
theorem zLc {x : RepD} (h : x.ok) (hw : x.wf) : Rt zMX x x.enc := by
  have e : x.enc = yH x.session ++ (yH x.seq ++ (yH (u64 x.e) ++ (yH x.lease ++ (yH (u64 x.amount) ++ (yH (u64 x.until_) ++ []))))) := by simp [RepD.enc, y7]
  have h6 : Rt (zn yM fun u => yX (⟨x.session, x.seq, x.e, x.lease, yS (u64 x.amount), yS u⟩ : RepD)) x (yH (u64 x.until_) ++ []) :=
    (xo (y3 _)).bind (q := fun u => yX (⟨x.session, x.seq, x.e, x.lease, yS (u64 x.amount), yS u⟩ : RepD)) (by rw [zAi hw.amount, zAi hw.until_]; exact Rt.pure x)
  rw [e]
  exact (xo hw.session).bind ((xo hw.seq).bind ((zLx h.1 h.2 (by decide)).bind ((xo hw.lease).bind ((xo (y3 _)).bind h6))))
theorem zMi {x : RepD} (h : x.ok) (hw : x.wf) : Rt x4 x (dat x.enc) := fun pre s => by
  have hl := zCm hw
  have h1 := zCU (d := x.enc) (by simp only [dat, List.length_append] at hl; omega) pre s
  have h2 := zHZ (ok := RepD.ok) (zLc h hw) h
  simp only [x4, h1, Option.bind_some]
  rw [show k6 x.enc = some x from h2]; rfl
theorem zG0 (h : SOk idx now cnt bs ls rs) : LedRead (xS idx now cnt bs ls rs) ⟨idx, now, cnt, bs, ls, rs⟩ := by
  refine ⟨rs.length, ?_⟩
  have hbl := h.q.blen
  have hll := h.q.llen
  have hb : Rt (zn yM (yg zAS)) bs (yH bs.length ++ bs.flatMap zC3) :=
    (xo (n := bs.length) (by omega)).bind (q := yg zAS) (Rt.rep fun x hx => zMk (h.q.bpos x hx).2.2 ⟨by have := (h.q.bpos x hx).1; omega, (h.q.bpos x hx).2.1⟩)
  have hl : Rt (zn yM (yg jx)) ls (yH ls.length ++ ls.flatMap zBf) :=
    (xo (n := ls.length) (by omega)).bind (q := yg jx) (Rt.rep fun x hx => by have k := h.lea x hx; exact zL0 k.1 k.2.1 k.2.2.1 k.2.2.2.1 k.2.2.2.2)
  have hr : Rt (yg x4 rs.length) rs (rs.flatMap fun r => dat r.enc) := Rt.rep fun x hx => zMi (h.c.each x hx).1 (h.w x hx)
  have ht := h.q.time
  have h1 := (xo h.i).bind (q := fun i => zn yM fun t => zn yM fun c => zn (zn yM (yg zAS)) fun bs => zn (zn yM (yg jx)) fun ls => zn (yg x4 rs.length) fun rs => yX (⟨i, yS t, c, bs, ls, rs⟩ : LedX))
    ((xo (y3 now)).bind (q := fun t => zn yM fun c => zn (zn yM (yg zAS)) fun bs => zn (zn yM (yg jx)) fun ls => zn (yg x4 rs.length) fun rs => yX (⟨idx, yS t, c, bs, ls, rs⟩ : LedX))
      ((xo h.n).bind (q := fun c => zn (zn yM (yg zAS)) fun bs => zn (zn yM (yg jx)) fun ls => zn (yg x4 rs.length) fun rs => yX (⟨idx, yS (u64 now), c, bs, ls, rs⟩ : LedX))
        (hb.bind (q := fun bs => zn (zn yM (yg jx)) fun ls => zn (yg x4 rs.length) fun rs => yX (⟨idx, yS (u64 now), cnt, bs, ls, rs⟩ : LedX))
          (hl.bind (q := fun ls => zn (yg x4 rs.length) fun rs => yX (⟨idx, yS (u64 now), cnt, bs, ls, rs⟩ : LedX))
            (hr.map fun rs => (⟨idx, yS (u64 now), cnt, bs, ls, rs⟩ : LedX))))))
  rw [zAi (by unfold xM; omega)] at h1
  have h2 := h1 [] []
  simp only [List.nil_append, List.append_nil, List.length_nil] at h2
  have e : xS idx now cnt bs ls rs = yH idx ++ (yH (u64 now) ++ (yH cnt ++ (yH bs.length ++ bs.flatMap zC3 ++ (yH ls.length ++ ls.flatMap zBf ++ rs.flatMap fun r => dat r.enc)))) := by
    simp [xS, zDL, zDI, zDJ]
  rw [e]; exact h2
end
def Cn {α : Type} (p : xt α) (enc : α → List UInt8) : Prop := ∀ b a x k, a ≤ b.length → p b a = some (x, k) → (a ≤ k ∧ k ≤ b.length) ∧ (b.take k).drop a = enc x
theorem xG {b : List UInt8} {a j k : Nat} (h1 : a ≤ j) (h2 : j ≤ k) (h3 : k ≤ b.length) : (b.take k).drop a = (b.take j).drop a ++ (b.take k).drop j := by
  have e : (b.take k) = b.take j ++ (b.take k).drop j := by
    have := (List.take_append_drop j (b.take k)).symm
    rwa [List.take_take, Nat.min_eq_left h2] at this
  calc (b.take k).drop a = (b.take j ++ (b.take k).drop j).drop a := by rw [← e]
    _ = _ := by rw [List.drop_append_of_le_length (by rw [List.length_take]; omega)]
theorem Cn.rep {α : Type} {p : xt α} {enc : α → List UInt8} (h : Cn p enc) : ∀ n b a l k, a ≤ b.length → yg p n b a = some (l, k) → ((a ≤ k ∧ k ≤ b.length) ∧ (b.take k).drop a = l.flatMap enc) ∧ l.length = n
  | 0, b, a, l, k, ha, hp => by
    simp only [yg, yX, Option.some.injEq, Prod.mk.injEq] at hp
    obtain ⟨rfl, rfl⟩ := hp
    exact ⟨⟨⟨Nat.le_refl _, ha⟩, by simp⟩, rfl⟩
  | n + 1, b, a, l, k, ha, hp => by
    obtain ⟨l', j, e1, hp⟩ := ze hp
    obtain ⟨x, i, e2, hp⟩ := ze hp
    simp only [yX, Option.some.injEq, Prod.mk.injEq] at hp
    obtain ⟨rfl, rfl⟩ := hp
    obtain ⟨⟨⟨a1, a2⟩, a3⟩, a4⟩ := Cn.rep h n b a l' j ha e1
    obtain ⟨⟨b1, b2⟩, b3⟩ := h b j x i a2 e2
    exact ⟨⟨⟨by omega, b2⟩, by rw [xG a1 b1 b2, a3, b3]; simp⟩, by simp [a4]⟩
theorem zIv : ∀ l : List UInt8, be (beN l) l.length = l
  | [] => rfl
  | c :: l => by
    have h1 := zDC l
    have hp : 0 < 256 ^ l.length := Nat.pow_pos (by omega)
    have hc := c.toNat_lt
    rw [List.length_cons, be, zGD, zCs]
    have e1 : (c.toNat * 256 ^ l.length + beN l) / 256 ^ l.length = c.toNat := by
      rw [Nat.mul_comm, Nat.mul_add_div hp, Nat.div_eq_of_lt h1]; omega
    have e2 : be (c.toNat * 256 ^ l.length + beN l) l.length = be (beN l) l.length := by
      have key : ∀ (k m n : Nat), k ≤ l.length → be (m * 256 ^ l.length + n) k = be n k := by
        intro k
        induction k with
        | zero => intros; rfl
        | succ k ih =>
          intro m n hk
          rw [be, be, ih m n (by omega), zGD]
          congr 1
          have : 256 ^ l.length = 256 ^ k * (256 * 256 ^ (l.length - k - 1)) := by
            rw [← Nat.mul_assoc, ← Nat.pow_succ, ← Nat.pow_add]; congr 1; omega
          rw [this, show m * (256 ^ k * (256 * 256 ^ (l.length - k - 1))) + n = 256 ^ k * (m * 256 ^ (l.length - k - 1) * 256) + n by rw [show m * (256 ^ k * (256 * 256 ^ (l.length - k - 1))) = 256 ^ k * (m * 256 ^ (l.length - k - 1) * 256) by ac_rfl], Nat.mul_add_div (Nat.pow_pos (by omega))]
          apply UInt8.toNat_inj.1
          simp
      exact key _ _ _ (Nat.le_refl _)
    rw [e1, e2, zIv l]; simp
theorem zFT {l : List UInt8} (h : l = [] ∨ zI l 0 ≠ 0) : yQ (beN l) = l.length := by
  rcases l with _ | ⟨c, l⟩
  · rfl
  · have hc : c ≠ 0 := by rcases h with h | h; cases h; exact h
    have hc0 : 0 < c.toNat := Nat.pos_of_ne_zero fun q => hc (UInt8.toNat_inj.1 q)
    have hp : 0 < 256 ^ l.length := Nat.pow_pos (by omega)
    have h1 := zDC (c :: l)
    have h2 : 256 ^ l.length ≤ beN (c :: l) := by rw [zCs]; have := Nat.mul_le_mul_right (256 ^ l.length) hc0; omega
    have h3 := zBA (beN (c :: l))
    have h4 : beN (c :: l) < 2 ^ (8 * (l.length + 1)) := by rw [zGD]; exact h1
    have h5 := xe h4
    have h6 : yQ (beN (c :: l)) ≤ l.length + 1 := by unfold yQ; omega
    have h7 : l.length < yQ (beN (c :: l)) := by
      refine Nat.lt_of_not_le fun q => ?_
      have := Nat.pow_le_pow_right (n := 256) (by omega) q
      omega
    rw [List.length_cons]; omega
theorem xv : Cn yM yH := fun b a x k ha hp => by
  have hs := z6 hp
  refine ⟨⟨by omega, hs.2.1⟩, ?_⟩
  unfold yM at hp
  rw [Option.map_eq_some_iff] at hp
  obtain ⟨⟨n, m⟩, h1, h2⟩ := hp
  simp only [Prod.mk.injEq] at h2
  obtain ⟨rfl, rfl⟩ := h2
  have e : (b.take (a + m)).drop a = (b.drop a).take m := by rw [List.drop_take]; congr 1; omega
  rw [e]
  generalize b.drop a = l at h1
  unfold jH at h1
  split at h1
  · cases h1
  · rename_i h0
    split at h1
    · cases h1
    · rename_i h2
      split at h1
      · cases h1
      · rename_i h3
        simp only [Option.some.injEq, Prod.mk.injEq] at h1
        obtain ⟨rfl, rfl⟩ := h1
        rcases l with _ | ⟨c, l⟩
        · exact absurd rfl h0
        · have e0 : zI (c :: l) 0 = c := rfl
          rw [e0] at h2 h3 ⊢
          have e1 : ((c :: l).take (1 + c.toNat)) = c :: l.take c.toNat := by rw [Nat.add_comm]; rfl
          rw [e1]
          show c :: l.take c.toNat = yH (beN (l.take c.toNat))
          simp only [List.length_cons] at h3
          have hl : (l.take c.toNat).length = c.toNat := by rw [List.length_take]; omega
          have hb : yQ (beN (l.take c.toNat)) = c.toNat := by
            rw [zFT, hl]
            rcases Nat.eq_zero_or_pos c.toNat with hz | hz
            · left; rw [hz]; rfl
            · right; intro q
              rcases l with _ | ⟨d, l⟩
              · simp at h3; omega
              · obtain ⟨c', hc'⟩ : ∃ c', c.toNat = c' + 1 := ⟨c.toNat - 1, by omega⟩
                rw [hc'] at q
                have hd : d = 0 := q
                exact h2 (.inr ⟨⟨by simp, hz⟩, by show d.toNat = 0; rw [hd]; rfl⟩)
          unfold yH
          rw [hb]
          have := zIv (l.take c.toNat)
          rw [hl] at this
          rw [this]; simp
theorem zCa : Cn yn dat := fun b a x k ha hp => by
  simp only [yn, Option.bind_eq_some_iff] at hp
  obtain ⟨⟨n, j⟩, h1, h2⟩ := hp
  obtain ⟨⟨a1, a2⟩, a3⟩ := xv b a n j ha h1
  dsimp only at h2
  split at h2
  · cases h2
  · simp only [Option.some.injEq, Prod.mk.injEq] at h2
    obtain ⟨rfl, rfl⟩ := h2
    refine ⟨⟨by omega, by omega⟩, ?_⟩
    rw [xG a1 (by omega) (by omega), a3]
    have : ((b.take (j + n)).drop j).length = n := by rw [List.length_drop, List.length_take]; omega
    simp only [dat, this]
theorem cn_bud : Cn zAS zC3 := fun b a x k ha hp => by
  obtain ⟨d, j, e1, hp⟩ := ze hp
  obtain ⟨m, i, e2, hp⟩ := ze hp
  simp only [yX, Option.some.injEq, Prod.mk.injEq] at hp
  obtain ⟨rfl, rfl⟩ := hp
  obtain ⟨⟨a1, a2⟩, a3⟩ := zCa b a d j ha e1
  obtain ⟨⟨b1, b2⟩, b3⟩ := xv b j m i a2 e2
  refine ⟨⟨by omega, b2⟩, ?_⟩
  rw [xG a1 b1 b2, a3, b3]
  simp only [zC3, zAc (z6 e2).1]
  rfl
theorem cn_lea : Cn jx zBf := fun b a x k ha hp => by
  obtain ⟨i, j1, e1, hp⟩ := ze hp
  obtain ⟨s, j2, e2, hp⟩ := ze hp
  obtain ⟨d, j3, e3, hp⟩ := ze hp
  obtain ⟨m, j4, e4, hp⟩ := ze hp
  obtain ⟨u, j5, e5, hp⟩ := ze hp
  simp only [yX, Option.some.injEq, Prod.mk.injEq] at hp
  obtain ⟨rfl, rfl⟩ := hp
  obtain ⟨⟨a1, a2⟩, a3⟩ := xv b a i j1 ha e1
  obtain ⟨⟨b1, b2⟩, b3⟩ := xv b j1 s j2 a2 e2
  obtain ⟨⟨c1, c2⟩, c3⟩ := zCa b j2 d j3 b2 e3
  obtain ⟨⟨d1, d2⟩, d3⟩ := xv b j3 m j4 c2 e4
  obtain ⟨⟨f1, f2⟩, f3⟩ := xv b j4 u j5 d2 e5
  refine ⟨⟨by omega, f2⟩, ?_⟩
  rw [xG a1 (show j1 ≤ j5 by omega) f2, xG b1 (show j2 ≤ j5 by omega) f2, xG c1 (show j3 ≤ j5 by omega) f2, xG d1 f1 f2, a3, b3, c3, d3, f3]
  simp only [zBf, zAc (z6 e4).1, zAc (z6 e5).1, List.append_assoc]
  rfl
theorem zEr {most n k a : Nat} {b : List UInt8} (h : ko most b a = some (n, k)) : yM b a = some (n, k) := (k7 h).1
theorem zFo {b : List UInt8} {r : RepD} (h : k6 b = some r) : r.enc = b ∧ r.wf ∧ r.ok := by
  unfold k6 jO at h
  simp only [Option.bind_eq_some_iff] at h
  obtain ⟨⟨x, j⟩, hp, h2⟩ := h
  dsimp only at h2
  split at h2
  · rename_i hc
    simp only [Option.some.injEq] at h2
    subst h2
    obtain ⟨s, j1, e1, hp⟩ := ze hp
    obtain ⟨q, j2, e2, hp⟩ := ze hp
    obtain ⟨o, j3, e3, hp⟩ := ze hp
    obtain ⟨l, j4, e4, hp⟩ := ze hp
    obtain ⟨m, j5, e5, hp⟩ := ze hp
    obtain ⟨u, j6, e6, hp⟩ := ze hp
    simp only [yX, Option.some.injEq, Prod.mk.injEq] at hp
    obtain ⟨rfl, rfl⟩ := hp
    obtain ⟨o', j3', e3', hp⟩ := ze e3
    simp only [yX, Option.some.injEq, Prod.mk.injEq] at hp
    obtain ⟨rfl, rfl⟩ := hp
    have e3 := zEr e3'
    obtain ⟨⟨a1, a2⟩, a3⟩ := xv b 0 s j1 (Nat.zero_le _) e1
    obtain ⟨⟨b1, b2⟩, b3⟩ := xv b j1 q j2 a2 e2
    obtain ⟨⟨c1, c2⟩, c3⟩ := xv b j2 o' j3' b2 e3
    obtain ⟨⟨d1, d2⟩, d3⟩ := xv b j3' l j4 c2 e4
    obtain ⟨⟨f1, f2⟩, f3⟩ := xv b j4 m j5 d2 e5
    obtain ⟨⟨g1, g2⟩, g3⟩ := xv b j5 u j6 f2 e6
    have hw : RepD.wf ⟨s, q, (o' : Int), l, yS m, yS u⟩ := ⟨(z6 e1).1, (z6 e2).1, (z6 e4).1, x8 (z6 e5).1, x8 (z6 e6).1⟩
    refine ⟨?_, hw, hc.2⟩
    have hb : (b.take j6).drop 0 = b := by rw [hc.1]; simp
    rw [xG a1 (show j1 ≤ j6 by omega) g2, xG b1 (show j2 ≤ j6 by omega) g2, xG c1 (show j3' ≤ j6 by omega) g2, xG d1 (show j4 ≤ j6 by omega) g2, xG f1 g1 g2, a3, b3, c3, d3, f3, g3] at hb
    rw [← hb]
    have ho := (z6 e3).1
    have ho2 : u64 (o' : Int) = o' := by unfold u64; omega
    simp only [RepD.enc, y7, List.flatMap_cons, List.flatMap_nil, zAc (z6 e5).1, zAc (z6 e6).1, ho2, List.append_nil]
  · cases h2
theorem zBY {b : List UInt8} {a k : Nat} {x : RepD} (h : x4 b a = some (x, k)) : ∃ d, yn b a = some (d, k) ∧ k6 d = some x := by
  simp only [x4, Option.bind_eq_some_iff, Option.map_eq_some_iff] at h
  obtain ⟨⟨d, j⟩, h1, r, h2, h3⟩ := h
  simp only [Prod.mk.injEq] at h3
  obtain ⟨rfl, rfl⟩ := h3
  exact ⟨d, h1, h2⟩
theorem cn_one : Cn x4 fun r => dat r.enc := fun b a x k ha hp => by
  obtain ⟨d, h1, h2⟩ := zBY hp
  obtain ⟨a1, a2⟩ := zCa b a d k ha h1
  refine ⟨a1, ?_⟩
  rw [a2]
  show dat d = dat x.enc
  rw [(zFo h2).1]
theorem zCC {α : Type} {p : xt α} {P : α → Prop} (h : ∀ b a x k, p b a = some (x, k) → P x) : ∀ n b a l k, yg p n b a = some (l, k) → ∀ x ∈ l, P x
  | 0, b, a, l, k, hp => by
    simp only [yg, yX, Option.some.injEq, Prod.mk.injEq] at hp
    obtain ⟨rfl, _⟩ := hp; intro x hx; cases hx
  | n + 1, b, a, l, k, hp => by
    obtain ⟨l', j, e1, hp⟩ := ze hp
    obtain ⟨y, i, e2, hp⟩ := ze hp
    simp only [yX, Option.some.injEq, Prod.mk.injEq] at hp
    obtain ⟨rfl, rfl⟩ := hp
    intro x hx
    rcases List.mem_append.1 hx with hx | hx
    · exact zCC h n b a l' j e1 x hx
    · rw [List.mem_singleton.1 hx]; exact h _ _ _ _ e2
theorem LedRead.back {d : List UInt8} {x : LedX} (h : LedRead d x) : d = xS x.idx x.now x.cnt x.bs x.ls x.rs ∧ x.idx < 18446744073709551616 ∧ x.cnt < 18446744073709551616 ∧ (∀ b ∈ x.bs, xM b.amount) ∧ (∀ l ∈ x.ls, xM l.amount ∧ xM l.until_ ∧ l.session < 18446744073709551616) ∧ ∀ r ∈ x.rs, r.wf ∧ r.ok := by
  obtain ⟨r, hp⟩ := h
  obtain ⟨i, j1, e1, hp⟩ := ze hp
  obtain ⟨t, j2, e2, hp⟩ := ze hp
  obtain ⟨c, j3, e3, hp⟩ := ze hp
  obtain ⟨bs, j5, e5, hp⟩ := ze hp
  obtain ⟨ls, j7, e7, hp⟩ := ze hp
  obtain ⟨rs, j8, e8, hp⟩ := ze hp
  simp only [yX, Option.some.injEq, Prod.mk.injEq] at hp
  obtain ⟨rfl, rfl⟩ := hp
  obtain ⟨n, j4, e4, e5⟩ := ze e5
  obtain ⟨m, j6, e6, e7⟩ := ze e7
  obtain ⟨⟨a1, a2⟩, a3⟩ := xv d 0 i j1 (Nat.zero_le _) e1
  obtain ⟨⟨b1, b2⟩, b3⟩ := xv d j1 t j2 a2 e2
  obtain ⟨⟨c1, c2⟩, c3⟩ := xv d j2 c j3 b2 e3
  obtain ⟨⟨d1, d2⟩, d3⟩ := xv d j3 n j4 c2 e4
  obtain ⟨⟨⟨f1, f2⟩, f3⟩, f4⟩ := cn_bud.rep n d j4 bs j5 d2 e5
  obtain ⟨⟨g1, g2⟩, g3⟩ := xv d j5 m j6 f2 e6
  obtain ⟨⟨⟨h1, h2⟩, h3⟩, h4⟩ := cn_lea.rep m d j6 ls j7 g2 e7
  obtain ⟨⟨⟨i1, i2⟩, i3⟩, i4⟩ := cn_one.rep r d j7 rs d.length h2 e8
  refine ⟨?_, (z6 e1).1, (z6 e3).1, zCC ?_ _ _ _ _ _ e5, zCC ?_ _ _ _ _ _ e7, zCC ?_ _ _ _ _ _ e8⟩
  · have hb : (d.take d.length).drop 0 = d := by simp
    rw [xG a1 (show j1 ≤ d.length by omega) (Nat.le_refl _), xG b1 (show j2 ≤ d.length by omega) (Nat.le_refl _), xG c1 (show j3 ≤ d.length by omega) (Nat.le_refl _), xG d1 (show j4 ≤ d.length by omega) (Nat.le_refl _),
      xG f1 (show j5 ≤ d.length by omega) (Nat.le_refl _), xG g1 (show j6 ≤ d.length by omega) (Nat.le_refl _), xG h1 (show j7 ≤ d.length by omega) (Nat.le_refl _), a3, b3, c3, d3, f3, g3, h3, i3] at hb
    rw [← hb]
    simp only [xS, zDL, zDI, zDJ, zAc (z6 e2).1, ← f4, ← h4, List.take_length, List.append_assoc]
  · intro b a x k hp
    obtain ⟨_, _, _, hp⟩ := ze hp
    obtain ⟨_, _, e, hp⟩ := ze hp
    simp only [yX, Option.some.injEq, Prod.mk.injEq] at hp
    obtain ⟨rfl, _⟩ := hp
    exact x8 (z6 e).1
  · intro b a x k hp
    obtain ⟨_, _, _, hp⟩ := ze hp
    obtain ⟨_, _, q1, hp⟩ := ze hp
    obtain ⟨_, _, _, hp⟩ := ze hp
    obtain ⟨_, _, q2, hp⟩ := ze hp
    obtain ⟨_, _, q3, hp⟩ := ze hp
    simp only [yX, Option.some.injEq, Prod.mk.injEq] at hp
    obtain ⟨rfl, _⟩ := hp
    exact ⟨x8 (z6 q2).1, x8 (z6 q3).1, (z6 q1).1⟩
  · intro b a x k hp
    obtain ⟨d, _, h⟩ := zBY hp
    exact (zFo h).2
theorem zEX {b : List UInt8} {a k : Nat} {x : RepD} (h : x4 b a = some (x, k)) : a < k ∧ k ≤ b.length := by
  obtain ⟨d, h1, _⟩ := zBY h
  have hk := (xu h1).1
  simp only [yn, Option.bind_eq_some_iff] at h1
  obtain ⟨⟨n, j⟩, h1, h2⟩ := h1
  have := (z6 h1).2.2
  dsimp only at h2
  split at h2
  · cases h2
  · simp only [Option.some.injEq, Prod.mk.injEq] at h2
    omega
theorem zGN {α : Type} {p : xt α} {b : List UInt8} {a r k : Nat} {v : List α × Nat} (h : yg p r b a = some v) (hk : k ≤ r) : ∃ q, yg p k b a = some q := by
  cases e : yg p k b a with
  | some q => exact ⟨q, rfl⟩
  | none => rw [zDn e r hk] at h; cases h
theorem zIx {b : List UInt8} {a r k at_ : Nat} {rs v : List RepD} (h : yg x4 r b a = some (v, b.length)) (hk : yg x4 k b a = some (rs, at_)) (hr : k ≤ r) (ha : at_ < b.length) : k + 1 ≤ r := by
  rcases Nat.lt_or_ge k r with q | q
  · exact q
  · have e : k = r := by omega
    rw [e, h] at hk
    simp only [Option.some.injEq, Prod.mk.injEq] at hk
    omega
theorem zE6 {b : List UInt8} {a r k at_ : Nat} {rs v : List RepD} (h : yg x4 r b a = some (v, b.length)) (hk : yg x4 k b a = some (rs, at_)) (hr : r < k) : False := by
  obtain ⟨q, hq⟩ := zGN hk (show r + 1 ≤ k by omega)
  obtain ⟨_, _, e1, hq⟩ := ze (v := q.1) (k := q.2) hq
  rw [h] at e1
  simp only [Option.some.injEq, Prod.mk.injEq] at e1
  obtain ⟨rfl, rfl⟩ := e1
  obtain ⟨_, _, e2, _⟩ := ze hq
  have := zEX e2
  omega
theorem LedRead.one {d : List UInt8} {x y : LedX} (hx : LedRead d x) (hy : LedRead d y) : x = y := by
  obtain ⟨r, hp⟩ := hx
  obtain ⟨r', hq⟩ := hy
  have hr : r = r' := by
    obtain ⟨i, j1, e1, hp⟩ := ze hp
    obtain ⟨t, j2, e2, hp⟩ := ze hp
    obtain ⟨c, j3, e3, hp⟩ := ze hp
    obtain ⟨bs, j5, e5, hp⟩ := ze hp
    obtain ⟨ls, j7, e7, hp⟩ := ze hp
    obtain ⟨rs, j8, e8, hp⟩ := ze hp
    simp only [yX, Option.some.injEq, Prod.mk.injEq] at hp
    obtain ⟨_, rfl⟩ := hp
    simp only [zMz, zn, e1, e2, e3, Option.bind_some] at hq
    have e5' : (yM d j3).bind (fun r => yg zAS r.1 d r.2) = some (bs, j5) := e5
    have e7' : (yM d j5).bind (fun r => yg jx r.1 d r.2) = some (ls, j7) := e7
    rw [e5'] at hq
    simp only [Option.bind_some] at hq
    rw [e7'] at hq
    simp only [Option.bind_some, Option.bind_eq_some_iff] at hq
    obtain ⟨⟨rs', k⟩, f1, hq⟩ := hq
    simp only [yX, Option.some.injEq, Prod.mk.injEq] at hq
    obtain ⟨_, rfl⟩ := hq
    rcases Nat.lt_trichotomy r r' with q | q | q
    · exact (zE6 e8 f1 q).elim
    · exact q
    · exact (zE6 f1 e8 q).elim
  subst hr
  rw [hp] at hq
  simp only [Option.some.injEq, Prod.mk.injEq] at hq
  exact hq.1
theorem zDX {b d : List UInt8} {a k : Nat} (h : yn b a = some (d, k)) : a < k := by
  simp only [yn, Option.bind_eq_some_iff] at h
  obtain ⟨⟨n, j⟩, h1, h2⟩ := h
  have := (z6 h1).2.2
  dsimp only at h2
  split at h2
  · cases h2
  · simp only [Option.some.injEq, Prod.mk.injEq] at h2; omega
theorem zGm {b : List UInt8} {a k : Nat} {x : BudD} (h : zAS b a = some (x, k)) : a < k := by
  obtain ⟨_, j, e1, h⟩ := ze h
  obtain ⟨_, i, e2, h⟩ := ze h
  simp only [yX, Option.some.injEq, Prod.mk.injEq] at h
  have := zDX e1; have := (z6 e2).2.2; omega
theorem zD1 {b : List UInt8} {a k : Nat} {x : LeaD} (h : jx b a = some (x, k)) : a < k := by
  obtain ⟨_, _, e1, h⟩ := ze h
  obtain ⟨_, _, e2, h⟩ := ze h
  obtain ⟨_, _, e3, h⟩ := ze h
  obtain ⟨_, _, e4, h⟩ := ze h
  obtain ⟨_, _, e5, h⟩ := ze h
  simp only [yX, Option.some.injEq, Prod.mk.injEq] at h
  have := (z6 e1).2.2; have := (z6 e2).2.2; have := zDX e3; have := (z6 e4).2.2; have := (z6 e5).2.2; omega
def Few (n at_ : Nat) (bad : Bool) (len : Nat) : Prop := (bad = false → n ≤ at_) ∧ n ≤ len + 1
theorem Few.start (a : Nat) (bad : Bool) (len : Nat) : Few 0 a bad len := ⟨fun _ => Nat.zero_le _, Nat.zero_le _⟩
theorem Few.next {α : Type} {p : xt α} {b : List UInt8} {a a' n : Nat} {bad' : Bool} {x : α} (h : Few n a false b.length) (ha : a ≤ b.length) (hp : ∀ x k, p b a = some (x, k) → a < k) (hr : RdS p b a false x a' bad') : Few (n + 1) a' bad' b.length :=
  ⟨fun q => by have := hp _ _ (hr.good q).2; have := h.1 rfl; omega, by have := h.1 rfl; omega⟩
theorem RdS.loop {α : Type} {p : xt α} {b : List UInt8} {a a1 a2 n k : Nat} {bad bad1 bad2 : Bool} {l : List α} (h1 : RdS yM b a bad n a1 bad1) (h2 : RdS (yg p l.length) b a1 bad1 l a2 bad2) (hk : k + l.length = n) (c : ¬ (((0 : Nat) : Int) < ((k : Nat) : Int) ∧ (!bad2) = true)) : RdS (zn yM (yg p)) b a bad l a2 bad2 := by
  refine h1.bind ?_
  cases hb : bad2 with
  | true => rw [hb] at h2; exact h2.stop (by omega)
  | false => have e : k = 0 := by rcases Nat.eq_zero_or_pos k with q | q; exact q; exact absurd ⟨by omega, by rw [hb]; rfl⟩ c
             rw [show n = l.length by omega]; rw [hb] at h2; exact h2
theorem RdS.one {b d : List UInt8} {a a1 : Nat} {bad bad1 : Bool} {x : RepD} {e : Int} (h1 : RdS yn b a bad d a1 bad1) (h2 : ValPost (k6 d) x zKF e) : RdS x4 b a bad x a1 (decide (bad1 = true ∨ e ≠ 0)) := by
  refine ⟨h1.le, fun h => decide_eq_true (.inl (h1.st h)), fun v k hb hp => ?_, fun hb hp => ?_⟩
  · obtain ⟨d', e1, e2⟩ := zBY hp
    obtain ⟨q1, rfl, rfl⟩ := h1.ok d' k hb e1
    rcases h2 with ⟨r1, r2⟩ | ⟨_, r2, _⟩
    · rw [e2] at r2; cases r2
      exact ⟨decide_eq_false (by rintro (q | q); rw [q1] at q; cases q; exact q r1), rfl, rfl⟩
    · rw [e2] at r2; cases r2
  · refine decide_eq_true ?_
    cases hq : yn b a with
    | none => exact .inl (h1.no hb hq)
    | some q =>
      obtain ⟨d', k⟩ := q
      obtain ⟨_, rfl, rfl⟩ := h1.ok d' k hb hq
      have hn : k6 d = none := by
        cases hr : k6 d with
        | none => rfl
        | some r => simp only [x4, hq, Option.bind_some, hr, Option.map_some] at hp; cases hp
      rcases h2 with ⟨_, r2⟩ | ⟨r1, _, _⟩
      · rw [hn] at r2; cases r2
      · exact .inr (by rw [r1]; decide)
theorem zLi {d : List UInt8} {x : RepD} {e : Int} (h : ValPost (k6 d) x zKF e) : x.wf := by
  rcases h with ⟨_, h⟩ | ⟨_, _, rfl⟩
  · exact (zFo h).2.1
  · exact ⟨by decide, by decide, by decide, by unfold xM; decide, by unfold xM; decide⟩
def Reach (b : List UInt8) (a n : Nat) : Prop := ∀ r v, yg x4 r b a = some (v, b.length) → n ≤ r
theorem Reach.next {b : List UInt8} {a at_ : Nat} {bad : Bool} {rs : List RepD} (h : Reach b a rs.length) (h1 : RdS (yg x4 rs.length) b a bad rs at_ false) (ha : at_ < b.length) : Reach b a (rs.length + 1) := fun r v hp =>
  zIx hp (h1.good rfl).2 (h r v hp) ha
def zLa (idx : Nat) (now : Int) (cnt : Nat) (kb : List (ByteArray × Int)) (kl : List (Nat × LeaD)) (kr : List (Nat × RepD)) (d : List UInt8) (er : Int) (idx' : Nat) (now' : Int) (cnt' : Nat) (kb' : List (ByteArray × Int)) (kl' : List (Nat × LeaD)) (kr' : List (Nat × RepD)) : Prop :=
  (er = 0 ∧ ∃ x : LedX, (LedRead d x ∧ LoadOk x.now x.cnt x.bs x.ls ∧ COk x.rs) ∧ idx' = x.idx ∧ now' = x.now ∧ cnt' = x.cnt ∧ kb' = KB x.bs ∧ kl' = KL x.ls ∧ kr' = KR x.rs)
  ∨ (er = 4 ∧ (∀ x, LedRead d x → ¬ (LoadOk x.now x.cnt x.bs x.ls ∧ COk x.rs)) ∧ idx' = idx ∧ now' = now ∧ cnt' = cnt ∧ kb' = kb ∧ kl' = kl ∧ kr' = kr)
section
variable {d : List UInt8} {i t c a1 a2 a3 a5 a7 a8 : Nat} {b1 b2 b3 b5 b7 b8 : Bool} {bs : List BudD} {ls : List LeaD} {rs : List RepD}
theorem zGM (h1 : RdS yM d 0 false i a1 b1) (h2 : RdS yM d a1 b1 t a2 b2) (h3 : RdS yM d a2 b2 c a3 b3) (h5 : RdS (zn yM (yg zAS)) d a3 b3 bs a5 b5) (h7 : RdS (zn yM (yg jx)) d a5 b5 ls a7 b7) (h8 : RdS (yg x4 rs.length) d a7 b7 rs a8 b8)
    (hb : b8 = false) (ha : ¬ a8 < d.length) : LedRead d ⟨i, yS t, c, bs, ls, rs⟩ := by
  refine ⟨rs.length, ?_⟩
  have h := h1.bind (q := fun i => zn yM fun t => zn yM fun c => zn (zn yM (yg zAS)) fun bs => zn (zn yM (yg jx)) fun ls => zn (yg x4 rs.length) fun rs => yX (⟨i, yS t, c, bs, ls, rs⟩ : LedX))
    (h2.bind (q := fun t => zn yM fun c => zn (zn yM (yg zAS)) fun bs => zn (zn yM (yg jx)) fun ls => zn (yg x4 rs.length) fun rs => yX (⟨i, yS t, c, bs, ls, rs⟩ : LedX))
      (h3.bind (q := fun c => zn (zn yM (yg zAS)) fun bs => zn (zn yM (yg jx)) fun ls => zn (yg x4 rs.length) fun rs => yX (⟨i, yS t, c, bs, ls, rs⟩ : LedX))
        (h5.bind (q := fun bs => zn (zn yM (yg jx)) fun ls => zn (yg x4 rs.length) fun rs => yX (⟨i, yS t, c, bs, ls, rs⟩ : LedX))
          (h7.bind (q := fun ls => zn (yg x4 rs.length) fun rs => yX (⟨i, yS t, c, bs, ls, rs⟩ : LedX)) (h8.map fun rs => (⟨i, yS t, c, bs, ls, rs⟩ : LedX))))))
  have e : a8 = d.length := by have := h8.le; omega
  rw [e] at h
  exact (h.good hb).2
theorem zMF (h1 : RdS yM d 0 false i a1 b1) (h2 : RdS yM d a1 b1 t a2 b2) (h3 : RdS yM d a2 b2 c a3 b3) (h5 : RdS (zn yM (yg zAS)) d a3 b3 bs a5 b5) (h7 : RdS (zn yM (yg jx)) d a5 b5 ls a7 b7) (h8 : RdS (yg x4 rs.length) d a7 b7 rs a8 b8) (hr : Reach d a7 rs.length)
    (hb : b8 = true) : ∀ x, ¬ LedRead d x := by
  rintro x ⟨r, hp⟩
  obtain ⟨i', j1, e1, hp⟩ := ze hp
  obtain ⟨t', j2, e2, hp⟩ := ze hp
  obtain ⟨c', j3, e3, hp⟩ := ze hp
  obtain ⟨bs', j5, e5, hp⟩ := ze hp
  obtain ⟨ls', j7, e7, hp⟩ := ze hp
  obtain ⟨rs', j8, e8, hp⟩ := ze hp
  simp only [yX, Option.some.injEq, Prod.mk.injEq] at hp
  obtain ⟨_, rfl⟩ := hp
  obtain ⟨f1, _, rfl⟩ := h1.ok _ _ rfl e1
  obtain ⟨f2, _, rfl⟩ := h2.ok _ _ f1 e2
  obtain ⟨f3, _, rfl⟩ := h3.ok _ _ f2 e3
  obtain ⟨f5, _, rfl⟩ := h5.ok _ _ f3 e5
  obtain ⟨f7, _, rfl⟩ := h7.ok _ _ f5 e7
  obtain ⟨q, hq⟩ := zGN e8 (hr _ _ e8)
  obtain ⟨f8, _⟩ := h8.ok q.1 q.2 f7 hq
  rw [hb] at f8; cases f8
end
theorem RdS.bud {b k : List UInt8} {a a1 a2 m : Nat} {bad bad1 bad2 : Bool} (h1 : RdS yn b a bad k a1 bad1) (h2 : RdS yM b a1 bad1 m a2 bad2) : RdS zAS b a bad ⟨kL k, yS m⟩ a2 bad2 :=
  h1.bind (q := fun k => zn yM fun a => yX (⟨kL k, yS a⟩ : BudD)) (h2.map fun a => (⟨kL k, yS a⟩ : BudD))
theorem RdS.lea {b k : List UInt8} {a a1 a2 a3 a4 a5 i s m u : Nat} {bad bad1 bad2 bad3 bad4 bad5 : Bool} (h1 : RdS yM b a bad i a1 bad1) (h2 : RdS yM b a1 bad1 s a2 bad2) (h3 : RdS yn b a2 bad2 k a3 bad3) (h4 : RdS yM b a3 bad3 m a4 bad4) (h5 : RdS yM b a4 bad4 u a5 bad5) : RdS jx b a bad ⟨i, s, kL k, yS m, yS u⟩ a5 bad5 :=
  h1.bind (q := fun i => zn yM fun s => zn yn fun k => zn yM fun a => zn yM fun u => yX (⟨i, s, kL k, yS a, yS u⟩ : LeaD))
    (h2.bind (q := fun s => zn yn fun k => zn yM fun a => zn yM fun u => yX (⟨i, s, kL k, yS a, yS u⟩ : LeaD))
      (h3.bind (q := fun k => zn yM fun a => zn yM fun u => yX (⟨i, s, kL k, yS a, yS u⟩ : LeaD))
        (h4.bind (q := fun a => zn yM fun u => yX (⟨i, s, kL k, yS a, yS u⟩ : LeaD)) (h5.map fun u => (⟨i, s, kL k, yS m, yS u⟩ : LeaD)))))
theorem zFI {α : Type} {P : α → Prop} {l : List α} {x : α} (h : ∀ y ∈ l, P y) (hx : P x) : ∀ y ∈ l ++ [x], P y := fun y hy => by
  rcases List.mem_append.1 hy with hy | hy
  · exact h y hy
  · rw [List.mem_singleton.1 hy]; exact hx
theorem zME {b : Bool} (h : (!b) = true) : b = false := by cases b <;> simp_all
theorem RdS.more {α : Type} {p : xt α} {P : α → Prop} {b : List UInt8} {a a1 a2 n k : Nat} {bad bad1 bad2 : Bool} {l : List α} {x : α} (hk : k + l.length = n) (h1 : RdS (yg p l.length) b a bad l a1 bad1) (hf : Few l.length a1 bad1 b.length) (hP : ∀ y ∈ l, P y)
    (c : ((0 : Nat) : Int) < ((k : Nat) : Int) ∧ (!bad1) = true) (hx : RdS p b a1 bad1 x a2 bad2) (hp : ∀ x k, p b a1 = some (x, k) → a1 < k) (hPx : P x) : k - 1 + (l ++ [x]).length = n ∧ RdS (yg p (l ++ [x]).length) b a bad (l ++ [x]) a2 bad2 ∧ Few (l ++ [x]).length a2 bad2 b.length ∧ ∀ y ∈ l ++ [x], P y := by
  have hb := zME c.2
  have e : (l ++ [x]).length = l.length + 1 := by simp
  rw [e]
  refine ⟨by omega, h1.snoc hx, ?_, zFI hP hPx⟩
  subst hb
  exact hf.next h1.le hp hx
theorem RdS.more3 {d : List UInt8} {a a1 a2 : Nat} {bad bad1 bad2 : Bool} {rs : List RepD} {x : RepD} (h1 : RdS (yg x4 rs.length) d a bad rs a1 bad1) (hq : Reach d a rs.length) (hf : Few rs.length a1 bad1 d.length) (hw : ∀ r ∈ rs, r.wf)
    (c : (!bad1) = true ∧ ((a1 : Nat) : Int) < ((d.length : Nat) : Int)) (hx : RdS x4 d a1 bad1 x a2 bad2) (hxw : x.wf) : RdS (yg x4 (rs ++ [x]).length) d a bad (rs ++ [x]) a2 bad2 ∧ Reach d a (rs ++ [x]).length ∧ Few (rs ++ [x]).length a2 bad2 d.length ∧ ∀ r ∈ rs ++ [x], r.wf := by
  have hb := zME c.1
  have e : (rs ++ [x]).length = rs.length + 1 := by simp
  rw [e]
  subst hb
  exact ⟨h1.snoc hx, hq.next h1 (by omega), hf.next h1.le (fun _ _ q => (zEX q).1) hx, zFI hw hxw⟩
theorem zH5 {d : List UInt8} {a1 a2 : Nat} {bad1 bad2 : Bool} {x : RepD} (c : (!bad1) = true ∧ ((a1 : Nat) : Int) < ((d.length : Nat) : Int)) (hx : RdS x4 d a1 bad1 x a2 bad2) : (if bad2 = true then 0 else d.length - a2 + 1) < if bad1 = true then 0 else d.length - a1 + 1 := by
  have hb := zME c.1
  subst hb
  rw [if_neg (show ¬ false = true by decide)]
  split
  · omega
  · rename_i h
    have h2 := zEX (hx.good (by cases bad2; rfl; exact absurd rfl h)).2
    omega
theorem zCw {A B : Prop} {e : Int} (h : (e = 0 ∧ A) ∨ (e = 2 ∧ B)) (he : ¬ e ≠ 0) : A := by
  rcases h with h | h
  · exact h.2
  · rw [h.1] at he; exact absurd (by decide) he
theorem zK6 {A B : Prop} {e : Int} (h : (e = 0 ∧ A) ∨ (e = 2 ∧ B)) (he : e ≠ 0) : B := by
  rcases h with h | h
  · exact absurd h.1 he
  · exact h.2
theorem zGg {d : List UInt8} {y : LedX} (h : LedRead d y) (hn : ¬ (LoadOk y.now y.cnt y.bs y.ls ∧ COk y.rs)) : ∀ x, LedRead d x → ¬ (LoadOk x.now x.cnt x.bs x.ls ∧ COk x.rs) := fun x hx => by
  rw [hx.one h]; exact hn
end Go.Proofs.YthincafbmpialaaGreat
