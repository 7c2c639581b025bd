/-
  WHAT IS WRITTEN IS READ: plain. No program in sight.
-/
import Derived.Test.YtlkoekhjegaimaaGreatMsgDec
set_option linter.unusedVariables false
set_option maxRecDepth 10000
namespace Go.Proofs.YtlkoekhjegaimaaGreat
open Go Go.Sc Go.Proofs

abbrev Parser (α : Type) := List UInt8 → Nat → Option (α × Nat)
/-- These bytes are read as it, whatever stands before and behind. -/
def Rt {α : Type} (p : Parser α) (x : α) (e : List UInt8) : Prop := ∀ pre s : List UInt8, p (pre ++ e ++ s) pre.length = some (x, (pre ++ e).length)
/-- What is read of some bytes is read with more behind them. -/
def Ext {α : Type} (p : Parser α) : Prop := ∀ (b s : List UInt8) (a : Nat) (v : α) (j : Nat), p b a = some (v, j) → p (b ++ s) a = some (v, j)
theorem Rt.pure {α : Type} (x : α) : Rt (pPure x) x [] := fun pre s => by simp [pPure]
theorem Rt.bind {α β : Type} {p : Parser α} {q : α → Parser β} {x : α} {y : β} {e f : List UInt8} (h1 : Rt p x e) (h2 : Rt (q x) y f) : Rt (pBind p q) y (e ++ f) := fun pre s => by
  have a1 := h1 pre (f ++ s)
  have a2 := h2 (pre ++ e) s
  simp only [pBind]
  rw [show pre ++ (e ++ f) ++ s = pre ++ e ++ (f ++ s) by simp, a1]
  simp only [Option.bind_some]
  rw [show pre ++ e ++ (f ++ s) = pre ++ e ++ f ++ s by simp, a2]
  simp
theorem Rt.map {α β : Type} {p : Parser α} {x : α} {e : List UInt8} (h : Rt p x e) (g : α → β) : Rt (pBind p fun v => pPure (g v)) (g x) e := by
  have := h.bind (q := fun v => pPure (g v)) (Rt.pure (g x)); rwa [List.append_nil] at this
theorem Rt.rep {α : Type} [Inhabited α] {p : Parser α} {l : List α} {enc : α → List UInt8} (h : ∀ x ∈ l, Rt p x (enc x)) : Rt (pRep p l.length) l (l.flatMap enc) := by
  have key : ∀ k, k ≤ l.length → Rt (pRep p k) (l.take k) ((l.take k).flatMap enc) := by
    intro k
    induction k with
    | zero => intro _; rw [List.take_zero]; exact Rt.pure []
    | succ k ih =>
      intro hk
      rw [take_nth (by omega), List.flatMap_append]
      have h2 := (h (nth l k) (nth_mem (by omega))).map (l.take k ++ [·])
      have := (ih (by omega)).bind (q := fun l => pBind p fun x => pPure (l ++ [x])) h2
      simp only [List.flatMap_cons, List.flatMap_nil, List.append_nil]
      exact this
  have := key l.length (Nat.le_refl _)
  rwa [List.take_length] at this
theorem Ext.pure {α : Type} (x : α) : Ext (pPure x) := fun _ _ _ _ _ h => h
theorem Ext.bind {α β : Type} {p : Parser α} {q : α → Parser β} (h1 : Ext p) (h2 : ∀ x, Ext (q x)) : Ext (pBind p q) := fun b s a v j h => by
  simp only [pBind, Option.bind_eq_some_iff] at h ⊢
  obtain ⟨⟨u, i⟩, h3, h4⟩ := h
  exact ⟨(u, i), h1 b s a u i h3, h2 u b s i v j h4⟩
theorem Ext.rep {α : Type} {p : Parser α} (h : Ext p) : ∀ n, Ext (pRep p n)
  | 0 => Ext.pure []
  | n + 1 => (Ext.rep h n).bind fun _ => h.bind fun _ => Ext.pure _

theorem nth_app {α : Type} [Inhabited α] {l m : List α} {j : Nat} (h : j < l.length) : nth (l ++ m) j = nth l j := by
  simp [nth, List.getElem?_append_left h]
theorem pRest_ext {l s : List UInt8} {q : Nat × Nat} (h : pRest l = some q) : pRest (l ++ s) = some q := by
  unfold pRest at h ⊢
  split at h
  · cases h
  · rename_i h0
    split at h
    · cases h
    · rename_i h1
      split at h
      · cases h
      · rename_i h2
        rw [nth_app (by omega), if_neg (by rw [List.length_append]; omega), if_neg, if_neg (by rw [List.length_append]; omega)]
        · rw [List.take_append_of_le_length (by omega)]; exact h
        · rintro (h | ⟨⟨_, h3⟩, h4⟩)
          · exact h1 (.inl h)
          · rw [nth_app (by omega)] at h4
            exact h1 (.inr ⟨⟨by omega, h3⟩, h4⟩)
theorem pNum_ext : Ext pNum := fun b s a v j h => by
  unfold pNum at h ⊢
  by_cases ha : a ≤ b.length
  · rw [List.drop_append_of_le_length ha]
    rw [Option.map_eq_some_iff] at h ⊢
    obtain ⟨q, h1, h2⟩ := h
    exact ⟨q, pRest_ext h1, h2⟩
  · rw [List.drop_of_length_le (by omega)] at h
    simp [pRest] at h
theorem pUpto_ext (n : Nat) : Ext (pUpto n) := fun b s a v j h => by
  simp only [pUpto, Option.bind_eq_some_iff] at h ⊢
  obtain ⟨⟨u, i⟩, h3, h4⟩ := h
  exact ⟨(u, i), pNum_ext b s a u i h3, h4⟩
theorem pBytes_ext : Ext pBytes := fun b s a v j h => by
  simp only [pBytes, Option.bind_eq_some_iff] at h ⊢
  obtain ⟨⟨u, i⟩, h3, h4⟩ := h
  refine ⟨(u, i), pNum_ext b s a u i h3, ?_⟩
  have := (pNum_some h3).2.1
  dsimp only at h4 ⊢
  split at h4
  · cases h4
  · rename_i hc
    rw [if_neg (by simp; omega), List.take_append_of_le_length (by omega)]; exact h4
theorem pInt_ext (n : Nat) : Ext (pInt n) := (pUpto_ext n).bind fun _ => Ext.pure _
theorem pIds_ext : Ext pIds := (pUpto_ext 16).bind fun n => (pInt_ext 16).rep n
theorem pConf_ext : Ext pConf := pIds_ext.bind fun _ => pIds_ext.bind fun _ => Ext.pure _
theorem pEnt_ext : Ext pEnt := pNum_ext.bind fun _ => pNum_ext.bind fun _ => (pInt_ext 3).bind fun _ => pNum_ext.bind fun _ => pBytes_ext.bind fun _ => Ext.pure _
theorem pEnts_ext : Ext pEnts := (pUpto_ext 8).bind fun n => pEnt_ext.rep n
theorem pFlag_ext : Ext pFlag := (pUpto_ext 1).bind fun _ => Ext.pure _
theorem pMsg_ext : Ext pMsg := (pInt_ext 9).bind fun _ => (pInt_ext 16).bind fun _ => (pInt_ext 16).bind fun _ => pNum_ext.bind fun _ => pNum_ext.bind fun _ => pNum_ext.bind fun _ => pNum_ext.bind fun _ => pNum_ext.bind fun _ => pFlag_ext.bind fun _ =>
  pEnts_ext.bind fun _ => pConf_ext.bind fun _ => (pInt_ext 65536).bind fun _ => pBytes_ext.bind fun _ => Ext.pure _

theorem beN_fold : ∀ (l : List UInt8) (n : Nat), l.foldl (fun n c => n * 256 + c.toNat) n = n * 256 ^ l.length + beN l
  | [], n => by simp [beN]
  | c :: l, n => by
    have h1 := beN_fold l (n * 256 + c.toNat)
    have h2 := beN_fold l (0 * 256 + c.toNat)
    simp only [beN, List.foldl_cons, List.length_cons] at *
    rw [h1, h2, Nat.pow_succ, Nat.add_mul, Nat.mul_assoc, Nat.mul_comm 256]; simp only [Nat.zero_mul, Nat.zero_add]; omega
theorem beN_cons (c : UInt8) (l : List UInt8) : beN (c :: l) = c.toNat * 256 ^ l.length + beN l := by
  have := beN_fold l (0 * 256 + c.toNat)
  simp only [beN, List.foldl_cons, Nat.zero_mul, Nat.zero_add] at *
  exact this
theorem pow8 (k : Nat) : 2 ^ (8 * k) = 256 ^ k := by rw [Nat.pow_mul]
theorem beN_be (n : Nat) : ∀ k, beN (be n k) = n % 256 ^ k
  | 0 => by simp [be, beN, Nat.mod_one]
  | k + 1 => by
    rw [be, beN_cons, be_length, beN_be n k, pow8, Nat.pow_succ, Nat.mod_mul]
    have : (UInt8.ofNat (n / 256 ^ k)).toNat = n / 256 ^ k % 256 := by simp
    rw [this, Nat.mul_comm, Nat.add_comm]
theorem byteLen_lt (n : Nat) : n < 256 ^ byteLen n := by
  have h1 := bitLen_lt n
  have : 2 ^ bitLen n ≤ 2 ^ (8 * byteLen n) := Nat.pow_le_pow_right (by omega) (by unfold byteLen; omega)
  rw [pow8] at this; omega
theorem byteLen_high {n k : Nat} (h : byteLen n = k + 1) : 0 < n / 256 ^ k ∧ n / 256 ^ k < 256 := by
  have h0 : 0 < n := by
    rcases Nat.eq_zero_or_pos n with rfl | h0
    · simp [byteLen, bitLen] at h
    · exact h0
  have h1 := bitLen_le h0
  have h2 : 256 ^ k ≤ n := by
    rw [← pow8]
    refine Nat.le_trans (Nat.pow_le_pow_right (by omega) ?_) h1
    unfold byteLen at h; omega
  have h3 := byteLen_lt n
  rw [h, Nat.pow_succ] at h3
  have hp : 0 < 256 ^ k := Nat.pow_pos (by omega)
  exact ⟨Nat.div_pos h2 hp, (Nat.div_lt_iff_lt_mul hp).2 (by omega)⟩
theorem pRest_num {n : Nat} (h : n < 18446744073709551616) (s : List UInt8) : pRest (num n ++ s) = some (n, (num n).length) := by
  have h8 := byteLen_le h
  have hl := num_length n
  have e0 : nth (num n ++ s) 0 = UInt8.ofNat (byteLen n) := rfl
  have e1 : (UInt8.ofNat (byteLen n)).toNat = byteLen n := by simp; omega
  unfold pRest
  rw [e0, e1, if_neg (by simp [hl]), if_neg, if_neg (by simp [hl]; omega)]
  · rw [List.take_append_of_le_length (by omega), List.take_of_length_le (by omega)]
    have : (num n).drop 1 = be n (byteLen n) := rfl
    rw [this, beN_be, Nat.mod_eq_of_lt (byteLen_lt n), hl]; simp [Nat.add_comm]
  · rintro (h | ⟨⟨_, h3⟩, h4⟩)
    · omega
    · obtain ⟨k, hk⟩ : ∃ k, byteLen n = k + 1 := ⟨byteLen n - 1, by omega⟩
      obtain ⟨a1, a2⟩ := byteLen_high hk
      have e2 : nth (num n ++ s) 1 = UInt8.ofNat (n / 2 ^ (8 * k)) := by
        rw [nth_app (by omega)]
        show nth (UInt8.ofNat (byteLen n) :: be n (byteLen n)) 1 = _
        rw [hk]; rfl
      rw [e2, pow8] at h4
      simp at h4; omega
theorem rt_num {n : Nat} (h : n < 18446744073709551616) : Rt pNum n (num n) := fun pre s => by
  unfold pNum
  rw [List.append_assoc, List.drop_left, pRest_num h]; simp
theorem rt_upto {n most : Nat} (h : n < 18446744073709551616) (hm : n ≤ most) : Rt (pUpto most) n (num n) := fun pre s => by
  simp only [pUpto, rt_num h pre s, Option.bind_some]; rw [if_neg (by omega)]
theorem rt_int {a : Int} {most : Nat} (h0 : 0 ≤ a) (hm : a ≤ most) (hs : most < 18446744073709551616) : Rt (pInt most) a (num (u64 a)) := by
  have e : u64 a = a.toNat := by unfold u64; omega
  have h := (rt_upto (n := a.toNat) (most := most) (by omega) (by omega)).map (fun n : Nat => (n : Int))
  rw [Int.toNat_of_nonneg h0] at h
  rw [e]; exact h
theorem rt_bytes {d : List UInt8} (h : d.length < 18446744073709551616) : Rt pBytes d (dat d) := fun pre s => by
  have h1 := rt_num h pre (d ++ s)
  have e : pre ++ dat d ++ s = pre ++ num d.length ++ (d ++ s) := by simp [dat]
  rw [e]
  simp only [pBytes, h1, Option.bind_some]
  rw [if_neg (by simp only [List.length_append]; omega)]
  rw [show pre ++ num d.length ++ (d ++ s) = (pre ++ num d.length ++ d) ++ s by simp, List.take_append_of_le_length (by simp only [List.length_append]; omega), List.take_of_length_le (by simp only [List.length_append]; omega), List.drop_left]
  simp [dat, Nat.add_assoc]
theorem rt_flag (f : Bool) : Rt pFlag f (num (fl f)) := by
  have h := (rt_upto (n := fl f) (most := 1) (fl_lt f) (by cases f <;> decide)).map (fun n : Nat => n == 1)
  have e : (fl f == 1) = f := by cases f <;> decide
  rw [e] at h; exact h
theorem rt_ids {l : List Int} (hl : l.length ≤ 16) (h : ∀ x ∈ l, 0 ≤ x ∧ x ≤ 16) : Rt pIds l (idsB l) := by
  have h1 := Rt.rep (p := pInt 16) (enc := fun x => num (u64 x)) (fun x hx => rt_int (h x hx).1 (h x hx).2 (by decide))
  have h2 := (rt_upto (n := l.length) (most := 16) (by omega) hl).bind (q := fun n => pRep (pInt 16) n) h1
  have e : idsB l = num l.length ++ l.flatMap fun x => num (u64 x) := by
    simp only [idsB, numsB, List.flatMap_cons, u64_nat (show l.length < 18446744073709551616 by omega), List.flatMap_map]
  rw [e]; exact h2
theorem Rises.few {l : List Int} (h : Rises l) : l.length ≤ 16 ∧ ∀ x ∈ l, 0 ≤ x ∧ x ≤ 16 := by
  have key : ∀ k, k ≤ l.length → ∀ j, j < k → (j : Int) + 1 ≤ nth l j := by
    intro k
    induction k with
    | zero => intro _ j hj; omega
    | succ k ih =>
      intro hk j hj
      have hs := (rises_step (k := k) (by omega) (h.take k)).1 (h.take (k + 1))
      by_cases e : j = k
      · subst e
        rcases Nat.eq_zero_or_pos j with rfl | hp
        · simpa using hs.2.1
        · have := ih (by omega) (j - 1) (by omega); have := hs.2.2 hp; omega
      · exact ih (by omega) j (by omega)
  constructor
  · rcases Nat.eq_zero_or_pos l.length with h0 | h0
    · omega
    · have h1 := key l.length (Nat.le_refl _) (l.length - 1) (by omega)
      have h2 := h.2 _ (nth_mem (l := l) (j := l.length - 1) (by omega))
      omega
  · intro x hx
    refine ⟨?_, h.2 x hx⟩
    have := h.1
    rw [List.pairwise_cons] at this
    have := this.1 x hx; omega
theorem rt_conf {c : ConfA} (hv : c.vs.length ≤ 16 ∧ ∀ x ∈ c.vs, 0 ≤ x ∧ x ≤ 16) (hl : c.ls.length ≤ 16 ∧ ∀ x ∈ c.ls, 0 ≤ x ∧ x ≤ 16) : Rt pConf c c.enc := by
  have h := (rt_ids hv.1 hv.2).bind (q := fun vs => pBind pIds fun ls => pPure (⟨vs, ls⟩ : ConfA)) ((rt_ids hl.1 hl.2).map fun ls => (⟨c.vs, ls⟩ : ConfA))
  exact h
theorem EntA.ok.kind {x : EntA} (h : x.ok) : 0 ≤ x.kind ∧ x.kind ≤ 3 := by
  have := h.2
  split at this
  · omega
  · split at this
    · omega
    · omega
theorem rt_ent {x : EntA} (h : x.ok) : Rt pEnt x x.enc := by
  have hk := h.kind
  obtain ⟨⟨⟨a1, a2⟩, ⟨a3, a4⟩, ⟨a5, a6⟩, a7⟩, _⟩ := h
  have e : x.enc = num x.index ++ (num x.term ++ (num (u64 x.kind) ++ (num (u64 x.delta) ++ (dat x.data ++ [])))) := by simp [EntA.enc, numsB]
  have hd : toI (u64 x.delta) = x.delta := toI_u64 (by unfold isI; omega)
  rw [e]
  have h5 : Rt (pBind pBytes fun b => pPure (⟨x.index, x.term, x.kind, toI (u64 x.delta), b⟩ : EntA)) x (dat x.data ++ []) :=
    (rt_bytes (by omega)).bind (q := fun b => pPure (⟨x.index, x.term, x.kind, toI (u64 x.delta), b⟩ : EntA)) (by rw [hd]; exact Rt.pure x)
  exact (rt_num (by omega)).bind ((rt_num (by omega)).bind ((rt_int hk.1 hk.2 (by decide)).bind ((rt_num (u64_lt _)).bind h5)))
theorem rt_ents {l : List EntA} (hl : l.length ≤ 8) (h : ∀ x ∈ l, x.ok) : Rt pEnts l (num l.length ++ entsB l) :=
  (rt_upto (n := l.length) (most := 8) (by omega) hl).bind (q := fun n => pRep pEnt n) (Rt.rep fun x hx => rt_ent (h x hx))
structure MsgA.nums (x : MsgA) : Prop where
  term : x.term < 18446744073709551616
  index : x.index < 18446744073709551616
  logTerm : x.logTerm < 18446744073709551616
  commit : x.commit < 18446744073709551616
  round : x.round < 18446744073709551616
theorem rt_msg {x : MsgA} (h : x.ok) (hn : x.nums) : Rt pMsg x x.enc := by
  obtain ⟨⟨⟨a1, a2, a3, a4, a5, a6⟩, hc⟩, he⟩ := h
  have hcf : (x.conf.vs.length ≤ 16 ∧ ∀ y ∈ x.conf.vs, 0 ≤ y ∧ y ≤ 16) ∧ (x.conf.ls.length ≤ 16 ∧ ∀ y ∈ x.conf.ls, 0 ≤ y ∧ y ≤ 16) := by
    split at hc
    · exact ⟨hc.1.1.1.few, hc.1.1.2.few⟩
    · have h1 := List.eq_nil_of_length_eq_zero hc.1
      have h2 := List.eq_nil_of_length_eq_zero hc.2
      rw [h1, h2]; simp
  have e : x.enc = num (u64 x.kind) ++ (num (u64 x.src) ++ (num (u64 x.dst) ++ (num x.term ++ (num x.index ++ (num x.logTerm ++ (num x.commit ++ (num x.round ++ (num (fl x.flag) ++ ((num x.ents.length ++ entsB x.ents) ++ (x.conf.enc ++ (num (u64 x.off) ++ (dat x.data ++ [])))))))))))) := by simp [MsgA.enc, numsB]
  rw [e]
  exact (rt_int (by omega) (by omega) (by decide)).bind ((rt_int (by omega) (by omega) (by decide)).bind ((rt_int (by omega) (by omega) (by decide)).bind ((rt_num hn.term).bind ((rt_num hn.index).bind ((rt_num hn.logTerm).bind ((rt_num hn.commit).bind ((rt_num hn.round).bind ((rt_flag _).bind
    ((rt_ents a6 he).bind ((rt_conf hcf.1 hcf.2).bind ((rt_int a4.1 a4.2 (by decide)).bind ((rt_bytes (by omega)).bind (Rt.pure x)))))))))))))
/-- Read of its bytes, of less, of more. -/
theorem whole_enc {α : Type} {p : Parser α} {ok : α → Prop} [DecidablePred ok] {x : α} {e : List UInt8} (h : Rt p x e) (hx : ok x) : whole p ok e = some x := by
  have h := h [] []
  simp only [List.append_nil, List.nil_append, List.length_nil] at h
  simp only [whole, h, Option.bind_some]; rw [if_pos ⟨trivial, hx⟩]
theorem whole_more {α : Type} {p : Parser α} {ok : α → Prop} [DecidablePred ok] {x : α} {e : List UInt8} (h : Rt p x e) (s : List UInt8) (hs : s ≠ []) : whole p ok (e ++ s) = none := by
  have h := h [] s
  simp only [List.nil_append, List.length_nil] at h
  simp only [whole, h, Option.bind_some]; rw [if_neg]
  rintro ⟨h1, _⟩
  have : 0 < s.length := List.length_pos_iff.2 hs
  simp at h1; exact hs h1
theorem whole_less {α : Type} {p : Parser α} {ok : α → Prop} [DecidablePred ok] {x : α} {e : List UInt8} (h : Rt p x e) (hx : Ext p) {k : Nat} (hk : k < e.length) : whole p ok (e.take k) = none := by
  have h := h [] []
  simp only [List.append_nil, List.nil_append, List.length_nil] at h
  cases hp : p (e.take k) 0 with
  | none => simp only [whole, hp, Option.bind_none]
  | some q =>
    simp only [whole, hp, Option.bind_some]; rw [if_neg]
    rintro ⟨h1, _⟩
    obtain ⟨v, j⟩ := q
    have := hx _ (e.drop k) 0 v j hp
    rw [List.take_append_drop, h] at this
    simp only [Option.some.injEq, Prod.mk.injEq] at this
    simp only [List.length_take] at h1
    omega
theorem enc_inj {α : Type} {p : Parser α} {x y : α} {e : List UInt8} (h : Rt p x e) (h' : Rt p y e) : x = y := by
  have h1 := h [] []
  have h2 := h' [] []
  rw [h1] at h2
  simp only [Option.some.injEq, Prod.mk.injEq] at h2
  exact h2.1
end Go.Proofs.YtlkoekhjegaimaaGreat
