/-
  WHAT EDGES ASK AND ARE TOLD: asks written, tolds read and written; the program's and the reference's.
-/
import Derived.Test.YtgcmbdgimepnmaaGreatRefW
import Derived.Test.YtgcmbdgimepnmaaGreatIn2
import Derived.Test.YtgcmbdgimepnmaaGreatFwN
set_option linter.unusedVariables false
set_option maxRecDepth 10000
namespace Go.Proofs.YtgcmbdgimepnmaaGreat
open Go Go.Sc Go.Proofs

def pv (p : Value × List UInt8) : List Value := [p.1]
/-- A list of bytes in a list that is only read. -/
abbrev BsRd (p : Value × List UInt8) (w : World) (S : List Nat) : Prop := Rd w S (Res.sl p.1 p.2.length (p.2.map vb))
theorem BsRd.at0 {p : Value × List UInt8} {w0 w : World} {S : List Nat} {L : List Res} (h : BsRd p w0 S) (hw : Own w0 S L w) : BsRd p w [] := hw.rd0 h
theorem BsRd.at {p : Value × List UInt8} {w0 w : World} {S : List Nat} {L Lin : List Res} (h : BsRd p w0 S) (hw : Own w0 S L w) (m : List Nat) (hm : m.mapM (fun i => L[i]?) = some Lin) : BsRd p w (fps Lin) := hw.rdTo h m hm
def datsB (ps : List (Value × List UInt8)) : List UInt8 := ps.flatMap fun p => dat p.2
theorem putBytes_s (v : Value) (bs : List UInt8) (lv : Value) (ps : List (Value × List UInt8)) (w : World) (hb : bs.length + (datsB ps).length ≤ 100000000000) (hn : LenOk ps.length) (hv : Rd w [] (Res.sl v bs.length (bs.map vb))) (hl : Rd w [] (Res.sl lv ps.length (ps.flatMap pv))) (all_hl : ∀ p ∈ ps, BsRd p w []) : Rets Tryz.prog 108 #[v, lv] w fun u_ w' => ∃ (r : Value), u_ = r ∧ Own w [] [Res.vec 5 1 r (bs ++ datsB ps).length ((bs ++ datsB ps).map vb)] w' := by
  have hbl : bs.length ≤ 100000000000 := by omega
  refine fn_enter (args := [v, lv]) Tryz.func108 rfl Tryz.ntmps108 rfl (Own.start w) ?_
  refine c_reg (l_as rfl (l_end (c_reg (l_mv rfl (l_call (by kernel_rfl) rfl rfl (fun w' hw => (cloneB_s v bs w' (by first | assumption | omega | (simp <;> omega) | (constructor <;> (first | omega | (simp only [LenOk]; omega) | (simp <;> omega)))) (hw.rd0 hv)).mono ?_))))))
  rintro r1_ w1 ⟨_, rfl, hO⟩
  refine (?_ : CL _ _ _ _ _ _ (Own w [] [Res.vec 5 1 r1_ bs.length (bs.map vb)])) w1 (hw.frame0 hO)
  refine l_as rfl (l_end (c_seq (c_reg (l_mv rfl (l_lenP (pR hl) rfl (by kernel_rfl) rfl (l_mv rfl (l_end (c_block ?_))))))))
  refine c_loop2 (fun (k : Nat) (o : Value) => [(5, o), (10, lv), (11, .int .i64 (ps.length : Nat)), (12, .int .i64 (k : Nat))]) (fun (k : Nat) (o : Value) => k ≤ ps.length) (fun (k : Nat) (o : Value) => [Res.vec 5 1 o (bs ++ datsB (ps.take k)).length ((bs ++ datsB (ps.take k)).map vb)]) (fun (k : Nat) (o : Value) => ps.length - k) (fun w' hw => ⟨0, r1_, ⟨rfl, rfl, rfl, rfl, trivial⟩, Nat.zero_le _, by simpa [datsB] using hw⟩) (fun k o g hΦ => ?_)
  have hle := flatMap_take_le (fun p : Value × List UInt8 => dat p.2) ps (k + 1)
  refine c_reg (l_lss rfl rfl rfl (l_end (c_seq (c_dec rfl (fun c1 => ?_) (fun c1 => ?_)))))
  ·
   rw [take_nth (by omega), List.flatMap_append] at hle
   simp only [List.length_append, List.flatMap_cons, List.flatMap_nil, List.append_nil, dat] at hle
   have hcl : (datsB (ps.take k)).length + ((num (nth ps k).2.length).length + (nth ps k).2.length) ≤ (datsB ps).length := hle
   refine c_skipC (c_seq (c_block (c_reg (l_idxP (pR hl) 1 k rfl rfl (by kernel_rfl) rfl (by omega) rfl (l_ldP (pR hl) 1 k 0 (fun _ => rfl) rfl rfl (by omega) rfl (by kernel_rfl) rfl (l_as rfl (l_end (c_last (l_mv rfl (l_mv rfl (l_lenP (pR (all_hl _ (nth_mem (by omega)))) rfl (by kernel_rfl) rfl (l_cvt (by kernel_rfl) rfl (wu64 (by omega)) rfl ?_ (by kernel_rfl)))))))))))))
   refine l_call (by kernel_rfl) rfl rfl (fun w' hw => (putNum_s o (bs ++ datsB (ps.take k)) (((nth ps k).2).length) w' (by first | assumption | omega | (simp <;> omega) | (constructor <;> (first | omega | (simp only [LenOk]; omega) | (simp <;> omega)))) (by first | assumption | omega | (simp <;> omega) | (constructor <;> (first | omega | (simp only [LenOk]; omega) | (simp <;> omega)))) (hw.rdVec0 0 rfl)).mono ?_)
   rintro r2_ w1 ⟨_, rfl, hO⟩
   refine (?_ : CL _ _ _ _ _ _ (Own w [] [Res.vec 5 1 o (bs ++ datsB (ps.take k)).length ((bs ++ datsB (ps.take k)).map vb), Res.vec 5 1 r2_ ((bs ++ datsB (ps.take k)) ++ num (((nth ps k).2).length)).length (((bs ++ datsB (ps.take k)) ++ num (((nth ps k).2).length)).map vb)])) w1 (hw.frame0 hO)
   refine l_mv rfl (l_appM (l := ((bs ++ datsB (ps.take k)) ++ num (((nth ps k).2).length))) (l' := (nth ps k).2) 1 (by kernel_rfl) rfl rfl rfl (fun w' hw' => Own.rd (all_hl _ (nth_mem (by omega))) hw') (by first | omega | (simp; omega)) rfl (fun v22 => l_as rfl (l_end (c_last (l_add rfl rfl (wi64 (by omega)) rfl (l_mv rfl ?_))))))
   exact l_nil (fun w' hw => ⟨k + 1, v22, ⟨rfl, rfl, rfl, rfl, trivial⟩, (by omega), by rw [take_nth (by omega)]; have h := hw.one 1 rfl; simpa [datsB, dat] using h, (by omega)⟩)
  ·
   refine c_exitC rfl (c_reg (l_mv rfl (l_as rfl (l_end ?_))))
   exact c_ret (ret1 (v := o) rfl rfl (fun w' hw => ⟨o, rfl, by rw [List.take_of_length_le (by omega)] at hw; exact hw⟩))
theorem data_s {S : List Nat} (o : Nat) (sl : Value) (bs : List UInt8) (lv : Value) (ps : List (Value × List UInt8)) (w : World) (hb : bs.length + (datsB ps).length ≤ 100000000000) (hn : LenOk ps.length) (hin : Own w S [Res.bv o TOut sl bs] w) (hl : Rd w S (Res.sl lv ps.length (ps.flatMap pv))) (all_hl : ∀ p ∈ ps, BsRd p w S) : Rets Tryz.prog 87 #[.pointer (some ⟨o, 0, none⟩), lv] w fun u_ w' => ∃ (sl' : Value), u_ = .tuple #[] ∧ Own w S [Res.bv o TOut sl' (bs ++ datsB ps)] w' := by
  refine fn_enter (args := [.pointer (some ⟨o, 0, none⟩), lv]) Tryz.func87 rfl Tryz.ntmps87 rfl (show Own w S [Res.bv o TOut sl bs] w from hin) ?_
  refine c_last (l_mv rfl (l_mv rfl (l_nck rfl rfl (l_fld (o := 0) rfl (by kernel_rfl) rfl ?_))))
  refine l_own [Res.row o TOut [sl], Res.vec 5 1 sl bs.length (bs.map vb)] (fun w' hw => hw.splitBv (i := 0) (o := o) (T := TOut) (v := sl) (bs := bs) rfl) ?_
  refine l_ldo 0 (v := sl) rfl rfl rfl (by kernel_rfl) rfl (l_mv rfl (l_call (by kernel_rfl) rfl rfl (fun w' hw => (putBytes_s sl bs lv ps w' (by first | assumption | omega | (simp <;> omega) | (constructor <;> (first | omega | (simp only [LenOk]; omega) | (simp <;> omega)))) (by first | assumption | omega | (simp <;> omega) | (constructor <;> (first | omega | (simp only [LenOk]; omega) | (simp <;> omega)))) (hw.rdVec0 1 rfl) (hw.rd0 hl) (fun p hp => BsRd.at0 (all_hl p hp) hw)).mono ?_)))
  rintro r1_ w1 ⟨_, rfl, hO⟩
  refine (?_ : CL _ _ _ _ _ _ (Own w S [Res.row o TOut [sl], Res.vec 5 1 sl bs.length (bs.map vb), Res.vec 5 1 r1_ (bs ++ datsB ps).length ((bs ++ datsB ps).map vb)])) w1 (hw.frame0 hO)
  refine l_nck rfl rfl (l_fld (o := 0) rfl (by kernel_rfl) rfl ?_)
  refine l_haveO (fun w' hw => Own.cell1Vec (i := 2) rfl hw) (fun hc1_ => ?_)
  refine l_st (cs := [sl]) 0 rfl rfl rfl (by kernel_rfl) hc1_ (Nat.le_of_ble_eq_true rfl) ?_
  exact l_nil (ret0 rfl (fun w' hw => ⟨r1_, rfl, (hw.joinBv (i := 0) (j := 2) (o := o) (T := TOut) (v := r1_) (bs := bs ++ datsB ps) (by decide) rfl rfl).one 0 rfl⟩))
/-- What bytes are that are read to their end, and sound. -/
def whole {α : Type} (p : List UInt8 → Nat → Option (α × Nat)) (ok : α → Prop) [DecidablePred ok] (b : List UInt8) : Option α := (p b 0).bind fun q => if q.2 = b.length ∧ ok q.1 then some q.1 else none
def ValPost {α : Type} (d : Option α) (x z : α) (e : Int) : Prop := (e = 0 ∧ d = some x) ∨ (e = 4 ∧ d = none ∧ x = z)
theorem whole_yes {α : Type} {p : List UInt8 → Nat → Option (α × Nat)} {ok : α → Prop} [DecidablePred ok] {b : List UInt8} {x : α} {a : Nat} {bad : Bool} (h : RdS p b 0 false x a bad) (hb : bad = false) (ha : a = b.length) (hok : ok x) : whole p ok b = some x := by
  obtain ⟨_, h2⟩ := h.good hb
  simp only [whole, h2, Option.bind_some]
  rw [if_pos ⟨ha, hok⟩]
theorem whole_no {α : Type} {p : List UInt8 → Nat → Option (α × Nat)} {ok : α → Prop} [DecidablePred ok] {b : List UInt8} {x : α} {a : Nat} {bad : Bool} (h : RdS p b 0 false x a bad) (hn : bad = false → a = b.length → ¬ ok x) : whole p ok b = none := by
  cases hp : p b 0 with
  | none => simp only [whole, hp, Option.bind_none]
  | some q =>
    obtain ⟨h1, h2, h3⟩ := h.ok q.1 q.2 rfl hp
    simp only [whole, hp, Option.bind_some]
    rw [if_neg]
    rintro ⟨h4, h5⟩
    rw [← h2] at h5
    exact hn h1 (h3.trans h4) h5
/-- The reference's outcome: what was read, and whether it is one. -/
structure RefPost {α : Type} (d : Option α) (x : α) (f : Bool) : Prop where
  yes : f = true → d = some x
  no : f = false → d = none
theorem RefPost.on {α : Type} {p : List UInt8 → Nat → Option (α × Nat)} {ok : α → Prop} [DecidablePred ok] {b : List UInt8} {x : α} {a : Nat} {bad f : Bool} (h : RdS p b 0 false x a bad) (hw : bad = false ∧ a = b.length) (hf : f = true ↔ ok x) : RefPost (whole p ok b) x f :=
  ⟨fun q => whole_yes h hw.1 hw.2 (hf.1 q), fun q => whole_no h fun _ _ h3 => by rw [hf.2 h3] at q; cases q⟩
theorem RefPost.off {α : Type} {p : List UInt8 → Nat → Option (α × Nat)} {ok : α → Prop} [DecidablePred ok] {b : List UInt8} {x : α} {a : Nat} {bad : Bool} (h : RdS p b 0 false x a bad) (hw : ¬ (bad = false ∧ a = b.length)) : RefPost (whole p ok b) x false :=
  ⟨fun q => (by cases q), fun _ => whole_no h fun h1 h2 _ => hw ⟨h1, h2⟩⟩
/-- 64 bits as a whole number. -/
def toI (n : Nat) : Int := if n ≤ 9223372036854775807 then n else (n : Int) - 18446744073709551616
theorem wrap_toI {n : Nat} (h : n < 18446744073709551616) : IntKind.i64.wrap (n : Int) = toI n := by
  rw [wi64_u (by omega)]; unfold toI; split <;> split <;> omega
theorem toI_u64 {a : Int} (h : isI a) : toI (u64 a) = a := by unfold isI at h; unfold toI u64; split <;> omega
theorem RdS.int {most : Nat} {b : List UInt8} {a a1 n : Nat} {bad bad1 : Bool} (h : RdS (pUpto most) b a bad n a1 bad1) : RdS (pInt most) b a bad (n : Int) a1 bad1 := RdS.map (fun n : Nat => (n : Int)) h
def pFlag : List UInt8 → Nat → Option (Bool × Nat) := pBind (pUpto 1) fun n => pPure (n == 1)
abbrev Parser (α : Type) := List UInt8 → Nat → Option (α × Nat)
/-- These bytes are read as it, whatever stands before and behind. -/
def Rt {α : Type} (p : Parser α) (x : α) (e : List UInt8) : Prop := ∀ pre s : List UInt8, p (pre ++ e ++ s) pre.length = some (x, (pre ++ e).length)
theorem Rt.pure {α : Type} (x : α) : Rt (pPure x) x [] := fun pre s => by simp [pPure]
theorem Rt.bind {α β : Type} {p : Parser α} {q : α → Parser β} {x : α} {y : β} {e f : List UInt8} (h1 : Rt p x e) (h2 : Rt (q x) y f) : Rt (pBind p q) y (e ++ f) := fun pre s => by
  have a1 := h1 pre (f ++ s)
  have a2 := h2 (pre ++ e) s
  simp only [pBind]
  rw [show pre ++ (e ++ f) ++ s = pre ++ e ++ (f ++ s) by simp, a1]
  simp only [Option.bind_some]
  rw [show pre ++ e ++ (f ++ s) = pre ++ e ++ f ++ s by simp, a2]
  simp
theorem Rt.map {α β : Type} {p : Parser α} {x : α} {e : List UInt8} (h : Rt p x e) (g : α → β) : Rt (pBind p fun v => pPure (g v)) (g x) e := by
  have := h.bind (q := fun v => pPure (g v)) (Rt.pure (g x)); rwa [List.append_nil] at this
theorem nth_app {α : Type} [Inhabited α] {l m : List α} {j : Nat} (h : j < l.length) : nth (l ++ m) j = nth l j := by
  simp [nth, List.getElem?_append_left h]
theorem beN_fold : ∀ (l : List UInt8) (n : Nat), l.foldl (fun n c => n * 256 + c.toNat) n = n * 256 ^ l.length + beN l
  | [], n => by simp [beN]
  | c :: l, n => by
    have h1 := beN_fold l (n * 256 + c.toNat)
    have h2 := beN_fold l (0 * 256 + c.toNat)
    simp only [beN, List.foldl_cons, List.length_cons] at *
    rw [h1, h2, Nat.pow_succ, Nat.add_mul, Nat.mul_assoc, Nat.mul_comm 256]; simp only [Nat.zero_mul, Nat.zero_add]; omega
theorem beN_cons (c : UInt8) (l : List UInt8) : beN (c :: l) = c.toNat * 256 ^ l.length + beN l := by
  have := beN_fold l (0 * 256 + c.toNat)
  simp only [beN, List.foldl_cons, Nat.zero_mul, Nat.zero_add] at *
  exact this
theorem pow8 (k : Nat) : 2 ^ (8 * k) = 256 ^ k := by rw [Nat.pow_mul]
theorem beN_be (n : Nat) : ∀ k, beN (be n k) = n % 256 ^ k
  | 0 => by simp [be, beN, Nat.mod_one]
  | k + 1 => by
    rw [be, beN_cons, be_length, beN_be n k, pow8, Nat.pow_succ, Nat.mod_mul]
    have : (UInt8.ofNat (n / 256 ^ k)).toNat = n / 256 ^ k % 256 := by simp
    rw [this, Nat.mul_comm, Nat.add_comm]
theorem byteLen_lt (n : Nat) : n < 256 ^ byteLen n := by
  have h1 := bitLen_lt n
  have : 2 ^ bitLen n ≤ 2 ^ (8 * byteLen n) := Nat.pow_le_pow_right (by omega) (by unfold byteLen; omega)
  rw [pow8] at this; omega
theorem byteLen_high {n k : Nat} (h : byteLen n = k + 1) : 0 < n / 256 ^ k ∧ n / 256 ^ k < 256 := by
  have h0 : 0 < n := by
    rcases Nat.eq_zero_or_pos n with rfl | h0
    · simp [byteLen, bitLen] at h
    · exact h0
  have h1 := bitLen_le h0
  have h2 : 256 ^ k ≤ n := by
    rw [← pow8]
    refine Nat.le_trans (Nat.pow_le_pow_right (by omega) ?_) h1
    unfold byteLen at h; omega
  have h3 := byteLen_lt n
  rw [h, Nat.pow_succ] at h3
  have hp : 0 < 256 ^ k := Nat.pow_pos (by omega)
  exact ⟨Nat.div_pos h2 hp, (Nat.div_lt_iff_lt_mul hp).2 (by omega)⟩
theorem pRest_num {n : Nat} (h : n < 18446744073709551616) (s : List UInt8) : pRest (num n ++ s) = some (n, (num n).length) := by
  have h8 := byteLen_le h
  have hl := num_length n
  have e0 : nth (num n ++ s) 0 = UInt8.ofNat (byteLen n) := rfl
  have e1 : (UInt8.ofNat (byteLen n)).toNat = byteLen n := by simp; omega
  unfold pRest
  rw [e0, e1, if_neg (by simp [hl]), if_neg, if_neg (by simp [hl]; omega)]
  · rw [List.take_append_of_le_length (by omega), List.take_of_length_le (by omega)]
    have : (num n).drop 1 = be n (byteLen n) := rfl
    rw [this, beN_be, Nat.mod_eq_of_lt (byteLen_lt n), hl]; simp [Nat.add_comm]
  · rintro (h | ⟨⟨_, h3⟩, h4⟩)
    · omega
    · obtain ⟨k, hk⟩ : ∃ k, byteLen n = k + 1 := ⟨byteLen n - 1, by omega⟩
      obtain ⟨a1, a2⟩ := byteLen_high hk
      have e2 : nth (num n ++ s) 1 = UInt8.ofNat (n / 2 ^ (8 * k)) := by
        rw [nth_app (by omega)]
        show nth (UInt8.ofNat (byteLen n) :: be n (byteLen n)) 1 = _
        rw [hk]; rfl
      rw [e2, pow8] at h4
      simp at h4; omega
theorem rt_num {n : Nat} (h : n < 18446744073709551616) : Rt pNum n (num n) := fun pre s => by
  unfold pNum
  rw [List.append_assoc, List.drop_left, pRest_num h]; simp
theorem rt_upto {n most : Nat} (h : n < 18446744073709551616) (hm : n ≤ most) : Rt (pUpto most) n (num n) := fun pre s => by
  simp only [pUpto, rt_num h pre s, Option.bind_some]; rw [if_neg (by omega)]
theorem rt_int {a : Int} {most : Nat} (h0 : 0 ≤ a) (hm : a ≤ most) (hs : most < 18446744073709551616) : Rt (pInt most) a (num (u64 a)) := by
  have e : u64 a = a.toNat := by unfold u64; omega
  have h := (rt_upto (n := a.toNat) (most := most) (by omega) (by omega)).map (fun n : Nat => (n : Int))
  rw [Int.toNat_of_nonneg h0] at h
  rw [e]; exact h
theorem rt_flag (f : Bool) : Rt pFlag f (num (fl f)) := by
  have h := (rt_upto (n := fl f) (most := 1) (fl_lt f) (by cases f <;> decide)).map (fun n : Nat => n == 1)
  have e : (fl f == 1) = f := by cases f <;> decide
  rw [e] at h; exact h
/-- Read of its bytes, of less, of more. -/
theorem whole_enc {α : Type} {p : Parser α} {ok : α → Prop} [DecidablePred ok] {x : α} {e : List UInt8} (h : Rt p x e) (hx : ok x) : whole p ok e = some x := by
  have h := h [] []
  simp only [List.append_nil, List.nil_append, List.length_nil] at h
  simp only [whole, h, Option.bind_some]; rw [if_pos ⟨trivial, hx⟩]
structure CmdD where
  session : Nat
  seq : Nat
  op : Int
  key : ByteArray
  amount : Int
  span : Int
  lease : Nat
  deriving DecidableEq
structure CmdD.wf (x : CmdD) : Prop where
  session : x.session < 18446744073709551616
  seq : x.seq < 18446744073709551616
  key : x.key.size ≤ 1048576
  amount : isI x.amount
  span : isI x.span
  lease : x.lease < 18446744073709551616
def CmdD.cells (x : CmdD) : List Value := [.int .u64 x.session, .int .u64 x.seq, .int .i64 x.op, .string x.key, .int .i64 x.amount, .int .i64 x.span, .int .u64 x.lease]
def CmdD.ok (x : CmdD) : Prop := (1 ≤ x.op ∧ x.op ≤ 5) ∧ x.key.size ≤ 64
instance (x : CmdD) : Decidable x.ok := inferInstanceAs (Decidable ((_ ∧ _) ∧ _))
def strB (s : ByteArray) : List UInt8 := s.data.toList
theorem strB_length (s : ByteArray) : (strB s).length = s.size := by unfold strB; rw [Array.length_toList]; rfl
def CmdD.enc (x : CmdD) : List UInt8 := numsB [x.session, x.seq, u64 x.op] ++ dat (strB x.key) ++ numsB [u64 x.amount, u64 x.span, x.lease]
structure RepD where
  session : Nat
  seq : Nat
  e : Int
  lease : Nat
  amount : Int
  until_ : Int
  deriving DecidableEq
structure RepD.wf (r : RepD) : Prop where
  session : r.session < 18446744073709551616
  seq : r.seq < 18446744073709551616
  lease : r.lease < 18446744073709551616
  amount : isI r.amount
  until_ : isI r.until_
def RepD.cells (r : RepD) : List Value := [.int .u64 r.session, .int .u64 r.seq, .int .i64 r.e, .int .u64 r.lease, .int .i64 r.amount, .int .i64 r.until_]
def RepD.ok (r : RepD) : Prop := 0 ≤ r.e ∧ r.e ≤ 20
instance (r : RepD) : Decidable r.ok := inferInstanceAs (Decidable (_ ∧ _))
def RepD.enc (r : RepD) : List UInt8 := numsB [r.session, r.seq, u64 r.e, r.lease, u64 r.amount, u64 r.until_]
theorem cmdSound_s (x : CmdD) (w : World) (hx : x.key.size ≤ 1048576) : Rets Tryz.prog 105 #[.agg (CmdD.cells x).toArray] w fun u_ w' => u_ = .bool (decide x.ok) ∧ Own w [] [] w' := by
  refine fn_enter (args := [.agg (CmdD.cells x).toArray]) Tryz.func105 rfl Tryz.ntmps105 rfl (Own.start w) ?_
  refine c_reg (l_box rfl rfl (fun b1 => l_as rfl (l_end (c_reg (l_fld (o := 2) rfl (by kernel_rfl) rfl (l_ldo 0 (v := .int .i64 x.op) rfl rfl rfl (by kernel_rfl) rfl (l_geq rfl rfl rfl (l_mv rfl (l_band (q := 1 ≤ x.op) 3 3 [9, 8, 7] (x.op ≤ 5) rfl rfl rfl rfl rfl rfl trivial rfl (fun h1_3 => ?_) (fun g1_7 => ?_))))))))))
  ·
   refine l_on rfl (gT h1_3) (l_fld (o := 2) rfl (by kernel_rfl) rfl (l_on rfl (gT h1_3) (l_ldo 0 (v := .int .i64 x.op) rfl rfl rfl (by kernel_rfl) rfl (l_on rfl (gT h1_3) (l_leq rfl rfl rfl ?_)))))
   exact l_nil (fun w' hw => ⟨(by repeat (first | exact .refl _ _ | refine .upd rfl ?_ | refine .msk rfl ?_)), rfl, hw⟩)
  refine l_mv rfl (l_band (q := (1 ≤ x.op) ∧ (x.op ≤ 5)) 4 8 [15, 14, 13, 12] (((x.key.size : Nat) : Int) ≤ 64) rfl rfl rfl rfl rfl rfl trivial rfl (fun h1_8 => ?_) (fun g1_13 => ?_))
  ·
   refine l_on rfl (gT h1_8) (l_fld (o := 3) rfl (by kernel_rfl) rfl (l_on rfl (gT h1_8) (l_ldo 0 (v := .string x.key) rfl rfl rfl (by kernel_rfl) rfl (l_on rfl (gT h1_8) (l_lens (by kernel_rfl) rfl rfl (l_on rfl (gT h1_8) (l_leq rfl rfl rfl ?_)))))))
   exact l_nil (fun w' hw => ⟨(by repeat (first | exact .refl _ _ | refine .upd rfl ?_ | refine .msk rfl ?_)), rfl, hw⟩)
  refine l_as rfl (l_end ?_)
  exact c_ret (ret1 (v := .bool (decide (((1 ≤ x.op) ∧ (x.op ≤ 5)) ∧ (((x.key.size : Nat) : Int) ≤ 64)))) rfl rfl (fun w' hw => ⟨(by congr 1; exact decide_eq_decide.2 (by unfold CmdD.ok; omega)), hw.drop⟩))
theorem cmdWrite_s {S : List Nat} (o : Nat) (sl : Value) (bs : List UInt8) (x : CmdD) (w : World) (hx : x.wf) (hb : bs.length ≤ 1000000000) (hin : Own w S [Res.bv o TOut sl bs] w) : Rets Tryz.prog 106 #[.pointer (some ⟨o, 0, none⟩), .agg (CmdD.cells x).toArray] w fun u_ w' => ∃ (sl' : Value), u_ = .tuple #[] ∧ Own w S [Res.bv o TOut sl' (bs ++ x.enc)] w' := by
  have hk : x.key.data.toList.length = x.key.size := strB_length x.key
  have hk2 := hx.key
  have hd := dat_length x.key.data.toList (by omega)
  have hn1 := numsB_length (ns := [x.session, x.seq, u64 x.op]) (by have := hx.session; have := hx.seq; simp [u64_lt, *])
  simp only [List.length_cons, List.length_nil] at hn1
  refine fn_enter (args := [.pointer (some ⟨o, 0, none⟩), .agg (CmdD.cells x).toArray]) Tryz.func106 rfl Tryz.ntmps106 rfl (show Own w S [Res.bv o TOut sl bs] w from hin) ?_
  refine c_reg (l_box rfl rfl (fun b3 => l_end (c_reg (l_mv rfl (l_fld (o := 0) rfl (by kernel_rfl) rfl (l_ldo 1 (v := .int .u64 (x.session : Nat)) rfl rfl rfl (by kernel_rfl) rfl (l_fld (o := 1) rfl (by kernel_rfl) rfl (l_ldo 1 (v := .int .u64 (x.seq : Nat)) rfl rfl rfl (by kernel_rfl) rfl (l_fld (o := 2) rfl (by kernel_rfl) rfl (l_ldo 1 (v := .int .i64 x.op) rfl rfl rfl (by kernel_rfl) rfl (l_cvt (by kernel_rfl) rfl (wrap_u64 _) rfl ?_ (by kernel_rfl))))))))))))
  refine l_bsl (e := 23) (sz := 1) (vs := [.int .u64 (x.session : Nat), .int .u64 (x.seq : Nat), .int .u64 (u64 x.op : Nat)]) (by kernel_rfl) rfl rfl (by simp [Value.cells]) (by decide) rfl (fun b12 => l_call (by kernel_rfl) rfl rfl (fun w' hw => (nums_s o _ _ (.slice (some ⟨b12, 0, none⟩) 3 3) [x.session, x.seq, u64 x.op] w' (by have := hx.session; have := hx.seq; simp [u64_lt, *]) (by first | assumption | omega | (simp <;> omega) | (constructor <;> (first | omega | (simp only [LenOk]; omega) | (simp <;> omega)))) (hw.give [0] rfl (by decide)) (hw.rdVec 2 rfl [0] rfl rfl)).mono ?_))
  rintro _ w1 ⟨sl'1_, rfl, hO⟩
  refine (?_ : CL _ _ _ _ _ _ (Own w S [Res.row b3 38 (CmdD.cells x), Res.vec 23 1 (.slice (some ⟨b12, 0, none⟩) 3 3) [x.session, x.seq, u64 x.op].length ([x.session, x.seq, u64 x.op].flatMap U1), Res.bv o TOut sl'1_ (bs ++ numsB [x.session, x.seq, u64 x.op])])) w1 (hw.frameL [0] rfl hO)
  refine l_end (c_reg (l_mv rfl (l_fld (o := 3) rfl (by kernel_rfl) rfl (l_ldo 0 (v := .string x.key) rfl rfl rfl (by kernel_rfl) rfl (l_s2b (by kernel_rfl) (by kernel_rfl) rfl (by rw [maxLen_eq]; omega) rfl (fun v17 => ?_))))))
  refine l_haveO (fun w' hw => Sl.cell1 (Own.holds hw 3 _ rfl)) (fun hc1_ => ?_)
  refine l_bsl1 (e := 39) (vs := [v17]) (by kernel_rfl) rfl rfl (allc_cons hc1_ allc_nil) (by decide) rfl (fun b18 => l_call (by kernel_rfl) rfl rfl (fun w' hw => (data_s o sl'1_ (bs ++ numsB [x.session, x.seq, u64 x.op]) (.slice (some ⟨b18, 0, none⟩) 1 1) [(v17, x.key.data.toList)] w' (by simp [datsB]; omega) (by show 1 ≤ _; omega) (hw.give [2] rfl (by decide)) (hw.rdVec 4 rfl [2] rfl rfl) (all_cons (hw.rdRes 3 rfl [2] rfl rfl) (fun p hp => by cases hp))).mono ?_))
  rintro _ w1 ⟨sl'2_, rfl, hO⟩
  refine (?_ : CL _ _ _ _ _ _ (Own w S [Res.row b3 38 (CmdD.cells x), Res.vec 23 1 (.slice (some ⟨b12, 0, none⟩) 3 3) [x.session, x.seq, u64 x.op].length ([x.session, x.seq, u64 x.op].flatMap U1), Res.sl v17 x.key.data.toList.length (x.key.data.toList.map vb), Res.vec 39 1 (.slice (some ⟨b18, 0, none⟩) 1 1) [(v17, x.key.data.toList)].length ([(v17, x.key.data.toList)].flatMap pv), Res.bv o TOut sl'2_ ((bs ++ numsB [x.session, x.seq, u64 x.op]) ++ datsB [(v17, x.key.data.toList)])])) w1 (hw.frameL [2] rfl hO)
  refine l_end (c_last (l_mv rfl (l_fld (o := 4) rfl (by kernel_rfl) rfl (l_ldo 0 (v := .int .i64 x.amount) rfl rfl rfl (by kernel_rfl) rfl (l_cvt (by kernel_rfl) rfl (wrap_u64 _) rfl ?_ (by kernel_rfl))))))
  refine l_fld (o := 5) rfl (by kernel_rfl) rfl (l_ldo 0 (v := .int .i64 x.span) rfl rfl rfl (by kernel_rfl) rfl (l_cvt (by kernel_rfl) rfl (wrap_u64 _) rfl ?_ (by kernel_rfl)))
  refine l_fld (o := 6) rfl (by kernel_rfl) rfl (l_ldo 0 (v := .int .u64 (x.lease : Nat)) rfl rfl rfl (by kernel_rfl) rfl (l_bsl (e := 23) (sz := 1) (vs := [.int .u64 (u64 x.amount : Nat), .int .u64 (u64 x.span : Nat), .int .u64 (x.lease : Nat)]) (by kernel_rfl) rfl rfl (by simp [Value.cells]) (by decide) rfl (fun b29 => l_call (by kernel_rfl) rfl rfl (fun w' hw => (nums_s o sl'2_ ((bs ++ numsB [x.session, x.seq, u64 x.op]) ++ datsB [(v17, x.key.data.toList)]) (.slice (some ⟨b29, 0, none⟩) 3 3) [u64 x.amount, u64 x.span, x.lease] w' (by have := hx.lease; simp [u64_lt, *]) (by simp [datsB]; omega) (hw.give [4] rfl (by decide)) (hw.rdVec 5 rfl [4] rfl rfl)).mono ?_))))
  rintro _ w1 ⟨sl'3_, rfl, hO⟩
  refine (?_ : CL _ _ _ _ _ _ (Own w S [Res.row b3 38 (CmdD.cells x), Res.vec 23 1 (.slice (some ⟨b12, 0, none⟩) 3 3) [x.session, x.seq, u64 x.op].length ([x.session, x.seq, u64 x.op].flatMap U1), Res.sl v17 x.key.data.toList.length (x.key.data.toList.map vb), Res.vec 39 1 (.slice (some ⟨b18, 0, none⟩) 1 1) [(v17, x.key.data.toList)].length ([(v17, x.key.data.toList)].flatMap pv), Res.vec 23 1 (.slice (some ⟨b29, 0, none⟩) 3 3) [u64 x.amount, u64 x.span, x.lease].length ([u64 x.amount, u64 x.span, x.lease].flatMap U1), Res.bv o TOut sl'3_ (((bs ++ numsB [x.session, x.seq, u64 x.op]) ++ datsB [(v17, x.key.data.toList)]) ++ numsB [u64 x.amount, u64 x.span, x.lease])])) w1 (hw.frameL [4] rfl hO)
  exact l_nil (ret0 rfl (fun w' hw => ⟨sl'3_, rfl, by have h := hw.one 5 rfl; simpa [CmdD.enc, datsB, strB] using h⟩))
theorem commands_s (w : World) : Rets Tryz.prog 84 #[] w fun u_ w' => u_ = .agg #[.func (.func 105) #[] #[], .func (.func 106) #[] #[], .func (.func 107) #[] #[]] ∧ Own w [] [] w' := by
  refine fn_enter (args := []) Tryz.func84 rfl Tryz.ntmps84 rfl (Own.start w) ?_
  refine c_reg (l_new (v := .agg #[.nilFunc, .nilFunc, .nilFunc]) (by kernel_rfl) rfl (fun b0 => l_end (c_reg (l_bld (cs := [.func (.func 105) #[] #[], .func (.func 106) #[] #[], .func (.func 107) #[] #[]]) (z := [.nilFunc, .nilFunc, .nilFunc]) (pl := [(0, 1), (1, 1), (2, 1)]) (by kernel_rfl) (by kernel_rfl) rfl (l_stN (cs := [.nilFunc, .nilFunc, .nilFunc]) (vs := [.func (.func 105) #[] #[], .func (.func 106) #[] #[], .func (.func 107) #[] #[]]) 0 rfl rfl rfl (by kernel_rfl) (allc_cons rfl (allc_cons rfl (allc_cons rfl allc_nil))) (Nat.le_of_ble_eq_true rfl) (l_end ?_))))))
  exact c_ret (retc (cs := [.func (.func 105) #[] #[], .func (.func 106) #[] #[], .func (.func 107) #[] #[]]) rfl rfl (by kernel_rfl) (Own.rowCells (i := 0) rfl) (fun w' hw => ⟨rfl, hw.drop⟩))
theorem repSound_s (x : RepD) (w : World) : Rets Tryz.prog 79 #[.agg (RepD.cells x).toArray] w fun u_ w' => u_ = .bool (decide x.ok) ∧ Own w [] [] w' := by
  refine fn_enter (args := [.agg (RepD.cells x).toArray]) Tryz.func79 rfl Tryz.ntmps79 rfl (Own.start w) ?_
  refine c_reg (l_box rfl rfl (fun b1 => l_as rfl (l_end (c_reg (l_fld (o := 2) rfl (by kernel_rfl) rfl (l_ldo 0 (v := .int .i64 x.e) rfl rfl rfl (by kernel_rfl) rfl (l_geq rfl rfl rfl (l_mv rfl (l_band (q := 0 ≤ x.e) 3 3 [9, 8, 7] (x.e ≤ 20) rfl rfl rfl rfl rfl rfl trivial rfl (fun h1_3 => ?_) (fun g1_7 => ?_))))))))))
  ·
   refine l_on rfl (gT h1_3) (l_fld (o := 2) rfl (by kernel_rfl) rfl (l_on rfl (gT h1_3) (l_ldo 0 (v := .int .i64 x.e) rfl rfl rfl (by kernel_rfl) rfl (l_on rfl (gT h1_3) (l_leq rfl rfl rfl ?_)))))
   exact l_nil (fun w' hw => ⟨(by repeat (first | exact .refl _ _ | refine .upd rfl ?_ | refine .msk rfl ?_)), rfl, hw⟩)
  refine l_as rfl (l_end ?_)
  exact c_ret (ret1 (v := .bool (decide ((0 ≤ x.e) ∧ (x.e ≤ 20)))) rfl rfl (fun w' hw => ⟨rfl, hw.drop⟩))
theorem replies_s (w : World) : Rets Tryz.prog 60 #[] w fun u_ w' => u_ = .agg #[.func (.func 79) #[] #[], .func (.func 80) #[] #[], .func (.func 81) #[] #[]] ∧ Own w [] [] w' := by
  refine fn_enter (args := []) Tryz.func60 rfl Tryz.ntmps60 rfl (Own.start w) ?_
  refine c_reg (l_new (v := .agg #[.nilFunc, .nilFunc, .nilFunc]) (by kernel_rfl) rfl (fun b0 => l_end (c_reg (l_bld (cs := [.func (.func 79) #[] #[], .func (.func 80) #[] #[], .func (.func 81) #[] #[]]) (z := [.nilFunc, .nilFunc, .nilFunc]) (pl := [(0, 1), (1, 1), (2, 1)]) (by kernel_rfl) (by kernel_rfl) rfl (l_stN (cs := [.nilFunc, .nilFunc, .nilFunc]) (vs := [.func (.func 79) #[] #[], .func (.func 80) #[] #[], .func (.func 81) #[] #[]]) 0 rfl rfl rfl (by kernel_rfl) (allc_cons rfl (allc_cons rfl (allc_cons rfl allc_nil))) (Nat.le_of_ble_eq_true rfl) (l_end ?_))))))
  exact c_ret (retc (cs := [.func (.func 79) #[] #[], .func (.func 80) #[] #[], .func (.func 81) #[] #[]]) rfl rfl (by kernel_rfl) (Own.rowCells (i := 0) rfl) (fun w' hw => ⟨rfl, hw.drop⟩))
theorem CmdDEq (r s : CmdD) : eqL [(0, some (some .u64)), (1, some (some .u64)), (2, some (some .i64)), (3, some none), (4, some (some .i64)), (5, some (some .i64)), (6, some (some .u64))] r.cells s.cells = decide (r = s) := by
  obtain ⟨a, b, c, d, e, f, g⟩ := r
  obtain ⟨a', b', c', d', e', f', g'⟩ := s
  simp [eqL, CmdD.cells, eqC, CmdD.mk.injEq, Bool.decide_and]
  have h : ∀ m n : Nat, decide ((m : Int) = n) = decide (m = n) := fun m n => decide_eq_decide.2 (by omega)
  simp only [h]
def strOf (l : List UInt8) : ByteArray := ⟨l.toArray⟩
def pRpl : List UInt8 → Nat → Option (RepD × Nat) := pBind pNum fun s => pBind pNum fun q => pBind (pInt 20) fun e => pBind pNum fun l => pBind pNum fun a => pBind pNum fun u => pPure ⟨s, q, e, l, toI a, toI u⟩
structure AskD where
  look : Bool
  lazy : Bool
  seq : Nat
  cmd : CmdD
  key : ByteArray
  deriving DecidableEq
structure TldD where
  seq : Nat
  retry : Bool
  lead : Int
  reply : RepD
  most : Int
  lent : Int
  deriving DecidableEq
def cmdZ : CmdD := ⟨0, 0, 0, ⟨#[]⟩, 0, 0, 0⟩
def repZ : RepD := ⟨0, 0, 0, 0, 0, 0⟩
def askZ : AskD := ⟨false, false, 0, cmdZ, ⟨#[]⟩⟩
def tldZ : TldD := ⟨0, false, 0, repZ, 0, 0⟩
def AskD.cells (x : AskD) : List Value := [.bool x.look, .bool x.lazy, .int .u64 x.seq] ++ (x.cmd.cells ++ [.string x.key])
def TldD.cells (x : TldD) : List Value := [.int .u64 x.seq, .bool x.retry, .int .i64 x.lead] ++ (x.reply.cells ++ [.int .i64 x.most, .int .i64 x.lent])
def AskD.ok (x : AskD) : Prop := if x.look = true then x.cmd = cmdZ ∧ x.key.size ≤ 64 else (x.cmd.ok ∧ x.key = ⟨#[]⟩) ∧ x.lazy = false
instance (x : AskD) : Decidable x.ok := by unfold AskD.ok; infer_instance
def TldD.ok (x : TldD) : Prop := (0 ≤ x.lead ∧ x.lead ≤ 16) ∧ x.reply.ok
instance (x : TldD) : Decidable x.ok := inferInstanceAs (Decidable ((_ ∧ _) ∧ _))
def pTld : List UInt8 → Nat → Option (TldD × Nat) := pBind pNum fun q => pBind pFlag fun r => pBind (pInt 16) fun d => pBind pRpl fun p => pBind pNum fun c => pBind pNum fun l => pPure ⟨q, r, d, p, toI c, toI l⟩
instance : DecidablePred RepD.ok := fun x => inferInstance
instance : DecidablePred TldD.ok := fun x => inferInstance
def decTld (b : List UInt8) : Option TldD := whole pTld TldD.ok b
theorem TldDEq (r s : TldD) : eqL [[(0, some (some .u64))], [(1, none)], [(2, some (some .i64))], [(3, some (some .u64)), (4, some (some .u64)), (5, some (some .i64)), (6, some (some .u64)), (7, some (some .i64)), (8, some (some .i64))], [(9, some (some .i64))], [(10, some (some .i64))]].flatten r.cells s.cells = decide (r = s) := by
  obtain ⟨l, z, q, ⟨a, b, c, d, e, f⟩, k, m⟩ := r
  obtain ⟨l', z', q', ⟨a', b', c', d', e', f'⟩, k', m'⟩ := s
  simp [eqL, TldD.cells, RepD.cells, eqC, RepD.mk.injEq, TldD.mk.injEq, Bool.decide_and, Bool.and_assoc]
  have h : ∀ m n : Nat, decide ((m : Int) = n) = decide (m = n) := fun m n => decide_eq_decide.2 (by omega)
  simp only [h]
theorem RdS.flag {b : List UInt8} {a a1 n : Nat} {bad bad1 : Bool} (h : RdS (pUpto 1) b a bad n a1 bad1) : RdS pFlag b a bad (decide ((n : Int) = 1)) a1 bad1 := by
  have e : (n == 1) = decide ((n : Int) = 1) := by rw [Bool.eq_iff_iff]; simp; omega
  have := RdS.map (fun n : Nat => n == 1) h
  rw [e] at this
  exact this
theorem replyRead_s {S : List Nat} (o : Nat) (v : Value) (b : List UInt8) (a : Nat) (bad : Bool) (w : World) (hl : LenOk b.length) (ha : a ≤ b.length) (hin : Own w S [Res.row o 130 [v, .int .i64 (a : Nat), .bool bad]] w) (hb : Rd w S (Res.sl v b.length (b.map vb))) : Rets Tryz.prog 81 #[.pointer (some ⟨o, 0, none⟩)] w fun u_ w' => ∃ (s : Nat) (q : Nat) (op : Nat) (le : Nat) (am : Int) (sp : Int) (a' : Nat) (bad' : Bool), u_ = .agg #[.int .u64 (s : Nat), .int .u64 (q : Nat), .int .i64 (op : Nat), .int .u64 (le : Nat), .int .i64 am, .int .i64 sp] ∧ RdS pRpl b a bad (⟨s, q, (op : Int), le, am, sp⟩ : RepD) a' bad' ∧ Own w S [Res.row o 130 [v, .int .i64 (a' : Nat), .bool bad']] w' := by
  refine fn_enter (args := [.pointer (some ⟨o, 0, none⟩)]) Tryz.func81 rfl Tryz.ntmps81 rfl (show Own w S [Res.row o 130 [v, .int .i64 (a : Nat), .bool bad]] w from hin) ?_
  refine c_reg (l_new (v := .agg #[.int .u64 (0 : Nat), .int .u64 (0 : Nat), .int .i64 0, .int .u64 (0 : Nat), .int .i64 0, .int .i64 0]) (by kernel_rfl) rfl (fun b2 => l_end (c_reg (l_mv rfl (l_call (by kernel_rfl) rfl rfl (fun w' hw => (inNum_s o v b a bad w' (by first | assumption | omega | (simp <;> omega) | (constructor <;> (first | omega | (simp only [LenOk]; omega) | (simp <;> omega)))) (by first | assumption | omega | (simp <;> omega) | (constructor <;> (first | omega | (simp only [LenOk]; omega) | (simp <;> omega)))) (hw.give [0] rfl (by decide)) (hw.rdTo hb [0] rfl)).mono ?_))))))
  rintro _ w1 ⟨n1_, a'2_, bad'3_, rfl, hf1_1, hf1_1_1, hO⟩
  have hq1 := hf1_1.le
  refine (?_ : CL _ _ _ _ _ _ (Own w S [Res.row b2 26 [.int .u64 (0 : Nat), .int .u64 (0 : Nat), .int .i64 0, .int .u64 (0 : Nat), .int .i64 0, .int .i64 0], Res.row o 130 [v, .int .i64 (a'2_ : Nat), .bool bad'3_]])) w1 (hw.frameL [0] rfl hO)
  refine l_mv rfl (l_call (by kernel_rfl) rfl rfl (fun w' hw => (inNum_s o v b a'2_ bad'3_ w' (by first | assumption | omega | (simp <;> omega) | (constructor <;> (first | omega | (simp only [LenOk]; omega) | (simp <;> omega)))) (by first | assumption | omega | (simp <;> omega) | (constructor <;> (first | omega | (simp only [LenOk]; omega) | (simp <;> omega)))) (hw.give [1] rfl (by decide)) (hw.rdTo hb [1] rfl)).mono ?_))
  rintro _ w1 ⟨n4_, a'5_, bad'6_, rfl, hf1_3, hf1_3_1, hO⟩
  have hq2 := hf1_3.le
  refine (?_ : CL _ _ _ _ _ _ (Own w S [Res.row b2 26 [.int .u64 (0 : Nat), .int .u64 (0 : Nat), .int .i64 0, .int .u64 (0 : Nat), .int .i64 0, .int .i64 0], Res.row o 130 [v, .int .i64 (a'5_ : Nat), .bool bad'6_]])) w1 (hw.frameL [1] rfl hO)
  refine l_mv rfl (l_call (by kernel_rfl) rfl rfl (fun w' hw => (inUpto_s o v b a'5_ bad'6_ 20 w' (by first | assumption | omega | (simp <;> omega) | (constructor <;> (first | omega | (simp only [LenOk]; omega) | (simp <;> omega)))) (by first | assumption | omega | (simp <;> omega) | (constructor <;> (first | omega | (simp only [LenOk]; omega) | (simp <;> omega)))) (by first | assumption | omega | (simp <;> omega) | (constructor <;> (first | omega | (simp only [LenOk]; omega) | (simp <;> omega)))) (hw.give [1] rfl (by decide)) (hw.rdTo hb [1] rfl)).mono ?_))
  rintro _ w1 ⟨n7_, a'8_, bad'9_, rfl, hf1_5, hf1_5_1, hO⟩
  have hq3 := hf1_5.le
  refine (?_ : CL _ _ _ _ _ _ (Own w S [Res.row b2 26 [.int .u64 (0 : Nat), .int .u64 (0 : Nat), .int .i64 0, .int .u64 (0 : Nat), .int .i64 0, .int .i64 0], Res.row o 130 [v, .int .i64 (a'8_ : Nat), .bool bad'9_]])) w1 (hw.frameL [1] rfl hO)
  refine l_mv rfl (l_call (by kernel_rfl) rfl rfl (fun w' hw => (inNum_s o v b a'8_ bad'9_ w' (by first | assumption | omega | (simp <;> omega) | (constructor <;> (first | omega | (simp only [LenOk]; omega) | (simp <;> omega)))) (by first | assumption | omega | (simp <;> omega) | (constructor <;> (first | omega | (simp only [LenOk]; omega) | (simp <;> omega)))) (hw.give [1] rfl (by decide)) (hw.rdTo hb [1] rfl)).mono ?_))
  rintro _ w1 ⟨n10_, a'11_, bad'12_, rfl, hf1_7, hf1_7_1, hO⟩
  have hq4 := hf1_7.le
  refine (?_ : CL _ _ _ _ _ _ (Own w S [Res.row b2 26 [.int .u64 (0 : Nat), .int .u64 (0 : Nat), .int .i64 0, .int .u64 (0 : Nat), .int .i64 0, .int .i64 0], Res.row o 130 [v, .int .i64 (a'11_ : Nat), .bool bad'12_]])) w1 (hw.frameL [1] rfl hO)
  refine l_mv rfl (l_call (by kernel_rfl) rfl rfl (fun w' hw => (inNum_s o v b a'11_ bad'12_ w' (by first | assumption | omega | (simp <;> omega) | (constructor <;> (first | omega | (simp only [LenOk]; omega) | (simp <;> omega)))) (by first | assumption | omega | (simp <;> omega) | (constructor <;> (first | omega | (simp only [LenOk]; omega) | (simp <;> omega)))) (hw.give [1] rfl (by decide)) (hw.rdTo hb [1] rfl)).mono ?_))
  rintro _ w1 ⟨n13_, a'14_, bad'15_, rfl, hf1_9, hf1_9_1, hO⟩
  have hq5 := hf1_9.le
  refine (?_ : CL _ _ _ _ _ _ (Own w S [Res.row b2 26 [.int .u64 (0 : Nat), .int .u64 (0 : Nat), .int .i64 0, .int .u64 (0 : Nat), .int .i64 0, .int .i64 0], Res.row o 130 [v, .int .i64 (a'14_ : Nat), .bool bad'15_]])) w1 (hw.frameL [1] rfl hO)
  refine l_cvt (c := toI n13_) (by kernel_rfl) rfl (wrap_toI hf1_9_1) rfl ?_ (by kernel_rfl)
  refine l_mv rfl (l_call (by kernel_rfl) rfl rfl (fun w' hw => (inNum_s o v b a'14_ bad'15_ w' (by first | assumption | omega | (simp <;> omega) | (constructor <;> (first | omega | (simp only [LenOk]; omega) | (simp <;> omega)))) (by first | assumption | omega | (simp <;> omega) | (constructor <;> (first | omega | (simp only [LenOk]; omega) | (simp <;> omega)))) (hw.give [1] rfl (by decide)) (hw.rdTo hb [1] rfl)).mono ?_))
  rintro _ w1 ⟨n16_, a'17_, bad'18_, rfl, hf1_12, hf1_12_1, hO⟩
  refine (?_ : CL _ _ _ _ _ _ (Own w S [Res.row b2 26 [.int .u64 (0 : Nat), .int .u64 (0 : Nat), .int .i64 0, .int .u64 (0 : Nat), .int .i64 0, .int .i64 0], Res.row o 130 [v, .int .i64 (a'17_ : Nat), .bool bad'18_]])) w1 (hw.frameL [1] rfl hO)
  refine l_cvt (c := toI n16_) (by kernel_rfl) rfl (wrap_toI hf1_12_1) rfl ?_ (by kernel_rfl)
  refine l_bld (cs := [.int .u64 (n1_ : Nat), .int .u64 (n4_ : Nat), .int .i64 (n7_ : Nat), .int .u64 (n10_ : Nat), .int .i64 (toI n13_), .int .i64 (toI n16_)]) (z := [.int .u64 (0 : Nat), .int .u64 (0 : Nat), .int .i64 0, .int .u64 (0 : Nat), .int .i64 0, .int .i64 0]) (pl := [(0, 1), (1, 1), (2, 1), (3, 1), (4, 1), (5, 1)]) (by kernel_rfl) (by kernel_rfl) rfl (l_stN (cs := [.int .u64 (0 : Nat), .int .u64 (0 : Nat), .int .i64 0, .int .u64 (0 : Nat), .int .i64 0, .int .i64 0]) (vs := [.int .u64 (n1_ : Nat), .int .u64 (n4_ : Nat), .int .i64 (n7_ : Nat), .int .u64 (n10_ : Nat), .int .i64 (toI n13_), .int .i64 (toI n16_)]) 0 rfl rfl rfl (by kernel_rfl) (allc_cons rfl (allc_cons rfl (allc_cons rfl (allc_cons rfl (allc_cons rfl (allc_cons rfl allc_nil)))))) (Nat.le_of_ble_eq_true rfl) (l_end ?_))
  exact c_ret (retc (cs := [.int .u64 (n1_ : Nat), .int .u64 (n4_ : Nat), .int .i64 (n7_ : Nat), .int .u64 (n10_ : Nat), .int .i64 (toI n13_), .int .i64 (toI n16_)]) rfl rfl (by kernel_rfl) (Own.rowCells (i := 0) rfl) (fun w' hw => ⟨n1_, n4_, n7_, n10_, toI n13_, toI n16_, a'17_, bad'18_, rfl, hf1_1.bind (hf1_3.bind (RdS.bind hf1_5.int (hf1_7.bind (hf1_9.bind (hf1_12.bind (RdS.pure _ hf1_12.le)))))), hw.sel [1] rfl (by decide)⟩))
theorem rrplRead_s {S : List Nat} (o : Nat) (v : Value) (b : List UInt8) (a : Nat) (bad : Bool) (w : World) (hl : LenOk b.length) (ha : a ≤ b.length) (hin : Own w S [Res.row o 114 [v, .int .i64 (a : Nat), .bool bad]] w) (hb : Rd w S (Res.sl v b.length (b.map vb))) : Rets Tryz.prog 57 #[.pointer (some ⟨o, 0, none⟩)] w fun u_ w' => ∃ (s : Nat) (q : Nat) (op : Nat) (le : Nat) (am : Int) (sp : Int) (a' : Nat) (bad' : Bool), u_ = .agg #[.int .u64 (s : Nat), .int .u64 (q : Nat), .int .i64 (op : Nat), .int .u64 (le : Nat), .int .i64 am, .int .i64 sp] ∧ RdS pRpl b a bad (⟨s, q, (op : Int), le, am, sp⟩ : RepD) a' bad' ∧ Own w S [Res.row o 114 [v, .int .i64 (a' : Nat), .bool bad']] w' := by
  refine fn_enter (args := [.pointer (some ⟨o, 0, none⟩)]) Tryz.func57 rfl Tryz.ntmps57 rfl (show Own w S [Res.row o 114 [v, .int .i64 (a : Nat), .bool bad]] w from hin) ?_
  refine c_reg (l_new (v := .agg #[.int .u64 (0 : Nat), .int .u64 (0 : Nat), .int .i64 0, .int .u64 (0 : Nat), .int .i64 0, .int .i64 0]) (by kernel_rfl) rfl (fun b2 => l_end (c_reg (l_bld (cs := [.int .u64 (0 : Nat), .int .u64 (0 : Nat), .int .i64 0, .int .u64 (0 : Nat), .int .i64 0, .int .i64 0]) (z := [.int .u64 (0 : Nat), .int .u64 (0 : Nat), .int .i64 0, .int .u64 (0 : Nat), .int .i64 0, .int .i64 0]) (pl := [(0, 1), (1, 1), (2, 1), (3, 1), (4, 1), (5, 1)]) (by kernel_rfl) (by kernel_rfl) rfl (l_new (v := .agg #[.int .u64 (0 : Nat), .int .u64 (0 : Nat), .int .i64 0, .int .u64 (0 : Nat), .int .i64 0, .int .i64 0]) (by kernel_rfl) rfl (fun b3 => l_stN (cs := [.int .u64 (0 : Nat), .int .u64 (0 : Nat), .int .i64 0, .int .u64 (0 : Nat), .int .i64 0, .int .i64 0]) (vs := [.int .u64 (0 : Nat), .int .u64 (0 : Nat), .int .i64 0, .int .u64 (0 : Nat), .int .i64 0, .int .i64 0]) 2 rfl rfl rfl (by kernel_rfl) (allc_cons rfl (allc_cons rfl (allc_cons rfl (allc_cons rfl (allc_cons rfl (allc_cons rfl allc_nil)))))) (Nat.le_of_ble_eq_true rfl) (l_end (c_reg (l_mv rfl (l_call (by kernel_rfl) rfl rfl (fun w' hw => (rinNum_s o v b a bad w' (by first | assumption | omega | (simp <;> omega) | (constructor <;> (first | omega | (simp only [LenOk]; omega) | (simp <;> omega)))) (by first | assumption | omega | (simp <;> omega) | (constructor <;> (first | omega | (simp only [LenOk]; omega) | (simp <;> omega)))) (hw.give [0] rfl (by decide)) (hw.rdTo hb [0] rfl)).mono ?_)))))))))))
  rintro _ w1 ⟨n1_, a'2_, bad'3_, rfl, hf2_1, hf2_1_1, hO⟩
  have hq1 := hf2_1.le
  refine (?_ : CL _ _ _ _ _ _ (Own w S [Res.row b2 26 [.int .u64 (0 : Nat), .int .u64 (0 : Nat), .int .i64 0, .int .u64 (0 : Nat), .int .i64 0, .int .i64 0], Res.row b3 26 [.int .u64 (0 : Nat), .int .u64 (0 : Nat), .int .i64 0, .int .u64 (0 : Nat), .int .i64 0, .int .i64 0], Res.row o 114 [v, .int .i64 (a'2_ : Nat), .bool bad'3_]])) w1 (hw.frameL [0] rfl hO)
  refine l_fld (o := 0) rfl (by kernel_rfl) rfl (l_st (cs := [.int .u64 (0 : Nat), .int .u64 (0 : Nat), .int .i64 0, .int .u64 (0 : Nat), .int .i64 0, .int .i64 0]) 1 rfl rfl rfl (by kernel_rfl) rfl (Nat.le_of_ble_eq_true rfl) (l_end (c_reg (l_mv rfl (l_call (by kernel_rfl) rfl rfl (fun w' hw => (rinNum_s o v b a'2_ bad'3_ w' (by first | assumption | omega | (simp <;> omega) | (constructor <;> (first | omega | (simp only [LenOk]; omega) | (simp <;> omega)))) (by first | assumption | omega | (simp <;> omega) | (constructor <;> (first | omega | (simp only [LenOk]; omega) | (simp <;> omega)))) (hw.give [2] rfl (by decide)) (hw.rdTo hb [2] rfl)).mono ?_))))))
  rintro _ w1 ⟨n4_, a'5_, bad'6_, rfl, hf3_1, hf3_1_1, hO⟩
  have hq2 := hf3_1.le
  refine (?_ : CL _ _ _ _ _ _ (Own w S [Res.row b2 26 [.int .u64 (0 : Nat), .int .u64 (0 : Nat), .int .i64 0, .int .u64 (0 : Nat), .int .i64 0, .int .i64 0], Res.row b3 26 [.int .u64 (n1_ : Nat), .int .u64 (0 : Nat), .int .i64 0, .int .u64 (0 : Nat), .int .i64 0, .int .i64 0], Res.row o 114 [v, .int .i64 (a'5_ : Nat), .bool bad'6_]])) w1 (hw.frameL [2] rfl hO)
  refine l_fld (o := 1) rfl (by kernel_rfl) rfl (l_st (cs := [.int .u64 (n1_ : Nat), .int .u64 (0 : Nat), .int .i64 0, .int .u64 (0 : Nat), .int .i64 0, .int .i64 0]) 1 rfl rfl rfl (by kernel_rfl) rfl (Nat.le_of_ble_eq_true rfl) (l_end (c_reg (l_mv rfl (l_call (by kernel_rfl) rfl rfl (fun w' hw => (rinInt_s o v b a'5_ bad'6_ 20 w' (by first | assumption | omega | (simp <;> omega) | (constructor <;> (first | omega | (simp only [LenOk]; omega) | (simp <;> omega)))) (by first | assumption | omega | (simp <;> omega) | (constructor <;> (first | omega | (simp only [LenOk]; omega) | (simp <;> omega)))) (by first | assumption | omega | (simp <;> omega) | (constructor <;> (first | omega | (simp only [LenOk]; omega) | (simp <;> omega)))) (hw.give [2] rfl (by decide)) (hw.rdTo hb [2] rfl)).mono ?_))))))
  rintro _ w1 ⟨n7_, a'8_, bad'9_, rfl, hf4_1, hf4_1_1, hO⟩
  have hq3 := hf4_1.le
  refine (?_ : CL _ _ _ _ _ _ (Own w S [Res.row b2 26 [.int .u64 (0 : Nat), .int .u64 (0 : Nat), .int .i64 0, .int .u64 (0 : Nat), .int .i64 0, .int .i64 0], Res.row b3 26 [.int .u64 (n1_ : Nat), .int .u64 (n4_ : Nat), .int .i64 0, .int .u64 (0 : Nat), .int .i64 0, .int .i64 0], Res.row o 114 [v, .int .i64 (a'8_ : Nat), .bool bad'9_]])) w1 (hw.frameL [2] rfl hO)
  refine l_fld (o := 2) rfl (by kernel_rfl) rfl (l_st (cs := [.int .u64 (n1_ : Nat), .int .u64 (n4_ : Nat), .int .i64 0, .int .u64 (0 : Nat), .int .i64 0, .int .i64 0]) 1 rfl rfl rfl (by kernel_rfl) rfl (Nat.le_of_ble_eq_true rfl) (l_end (c_reg (l_mv rfl (l_call (by kernel_rfl) rfl rfl (fun w' hw => (rinNum_s o v b a'8_ bad'9_ w' (by first | assumption | omega | (simp <;> omega) | (constructor <;> (first | omega | (simp only [LenOk]; omega) | (simp <;> omega)))) (by first | assumption | omega | (simp <;> omega) | (constructor <;> (first | omega | (simp only [LenOk]; omega) | (simp <;> omega)))) (hw.give [2] rfl (by decide)) (hw.rdTo hb [2] rfl)).mono ?_))))))
  rintro _ w1 ⟨n10_, a'11_, bad'12_, rfl, hf5_1, hf5_1_1, hO⟩
  have hq4 := hf5_1.le
  refine (?_ : CL _ _ _ _ _ _ (Own w S [Res.row b2 26 [.int .u64 (0 : Nat), .int .u64 (0 : Nat), .int .i64 0, .int .u64 (0 : Nat), .int .i64 0, .int .i64 0], Res.row b3 26 [.int .u64 (n1_ : Nat), .int .u64 (n4_ : Nat), .int .i64 (n7_ : Nat), .int .u64 (0 : Nat), .int .i64 0, .int .i64 0], Res.row o 114 [v, .int .i64 (a'11_ : Nat), .bool bad'12_]])) w1 (hw.frameL [2] rfl hO)
  refine l_fld (o := 3) rfl (by kernel_rfl) rfl (l_st (cs := [.int .u64 (n1_ : Nat), .int .u64 (n4_ : Nat), .int .i64 (n7_ : Nat), .int .u64 (0 : Nat), .int .i64 0, .int .i64 0]) 1 rfl rfl rfl (by kernel_rfl) rfl (Nat.le_of_ble_eq_true rfl) (l_end (c_reg (l_mv rfl (l_call (by kernel_rfl) rfl rfl (fun w' hw => (rinNum_s o v b a'11_ bad'12_ w' (by first | assumption | omega | (simp <;> omega) | (constructor <;> (first | omega | (simp only [LenOk]; omega) | (simp <;> omega)))) (by first | assumption | omega | (simp <;> omega) | (constructor <;> (first | omega | (simp only [LenOk]; omega) | (simp <;> omega)))) (hw.give [2] rfl (by decide)) (hw.rdTo hb [2] rfl)).mono ?_))))))
  rintro _ w1 ⟨n13_, a'14_, bad'15_, rfl, hf6_1, hf6_1_1, hO⟩
  have hq5 := hf6_1.le
  refine (?_ : CL _ _ _ _ _ _ (Own w S [Res.row b2 26 [.int .u64 (0 : Nat), .int .u64 (0 : Nat), .int .i64 0, .int .u64 (0 : Nat), .int .i64 0, .int .i64 0], Res.row b3 26 [.int .u64 (n1_ : Nat), .int .u64 (n4_ : Nat), .int .i64 (n7_ : Nat), .int .u64 (n10_ : Nat), .int .i64 0, .int .i64 0], Res.row o 114 [v, .int .i64 (a'14_ : Nat), .bool bad'15_]])) w1 (hw.frameL [2] rfl hO)
  refine l_cvt (c := toI n13_) (by kernel_rfl) rfl (wrap_toI hf6_1_1) rfl ?_ (by kernel_rfl)
  refine l_fld (o := 4) rfl (by kernel_rfl) rfl (l_st (cs := [.int .u64 (n1_ : Nat), .int .u64 (n4_ : Nat), .int .i64 (n7_ : Nat), .int .u64 (n10_ : Nat), .int .i64 0, .int .i64 0]) 1 rfl rfl rfl (by kernel_rfl) rfl (Nat.le_of_ble_eq_true rfl) (l_end (c_reg (l_mv rfl (l_call (by kernel_rfl) rfl rfl (fun w' hw => (rinNum_s o v b a'14_ bad'15_ w' (by first | assumption | omega | (simp <;> omega) | (constructor <;> (first | omega | (simp only [LenOk]; omega) | (simp <;> omega)))) (by first | assumption | omega | (simp <;> omega) | (constructor <;> (first | omega | (simp only [LenOk]; omega) | (simp <;> omega)))) (hw.give [2] rfl (by decide)) (hw.rdTo hb [2] rfl)).mono ?_))))))
  rintro _ w1 ⟨n16_, a'17_, bad'18_, rfl, hf7_1, hf7_1_1, hO⟩
  refine (?_ : CL _ _ _ _ _ _ (Own w S [Res.row b2 26 [.int .u64 (0 : Nat), .int .u64 (0 : Nat), .int .i64 0, .int .u64 (0 : Nat), .int .i64 0, .int .i64 0], Res.row b3 26 [.int .u64 (n1_ : Nat), .int .u64 (n4_ : Nat), .int .i64 (n7_ : Nat), .int .u64 (n10_ : Nat), .int .i64 (toI n13_), .int .i64 0], Res.row o 114 [v, .int .i64 (a'17_ : Nat), .bool bad'18_]])) w1 (hw.frameL [2] rfl hO)
  refine l_cvt (c := toI n16_) (by kernel_rfl) rfl (wrap_toI hf7_1_1) rfl ?_ (by kernel_rfl)
  refine l_fld (o := 5) rfl (by kernel_rfl) rfl (l_st (cs := [.int .u64 (n1_ : Nat), .int .u64 (n4_ : Nat), .int .i64 (n7_ : Nat), .int .u64 (n10_ : Nat), .int .i64 (toI n13_), .int .i64 0]) 1 rfl rfl rfl (by kernel_rfl) rfl (Nat.le_of_ble_eq_true rfl) (l_end (c_reg (l_ldr (cs := [.int .u64 (n1_ : Nat), .int .u64 (n4_ : Nat), .int .i64 (n7_ : Nat), .int .u64 (n10_ : Nat), .int .i64 (toI n13_), .int .i64 (toI n16_)]) 1 rfl rfl (by kernel_rfl) rfl (l_stN (cs := [.int .u64 (0 : Nat), .int .u64 (0 : Nat), .int .i64 0, .int .u64 (0 : Nat), .int .i64 0, .int .i64 0]) (vs := [.int .u64 (n1_ : Nat), .int .u64 (n4_ : Nat), .int .i64 (n7_ : Nat), .int .u64 (n10_ : Nat), .int .i64 (toI n13_), .int .i64 (toI n16_)]) 0 rfl rfl rfl (by kernel_rfl) (allc_cons rfl (allc_cons rfl (allc_cons rfl (allc_cons rfl (allc_cons rfl (allc_cons rfl allc_nil)))))) (Nat.le_of_ble_eq_true rfl) (l_end ?_))))))
  exact c_ret (retc (cs := [.int .u64 (n1_ : Nat), .int .u64 (n4_ : Nat), .int .i64 (n7_ : Nat), .int .u64 (n10_ : Nat), .int .i64 (toI n13_), .int .i64 (toI n16_)]) rfl rfl (by kernel_rfl) (Own.rowCells (i := 0) rfl) (fun w' hw => ⟨n1_, n4_, n7_, n10_, toI n13_, toI n16_, a'17_, bad'18_, rfl, hf2_1.bind (hf3_1.bind (RdS.bind hf4_1.int (hf5_1.bind (hf6_1.bind (hf7_1.bind (RdS.pure _ hf7_1.le)))))), hw.sel [2] rfl (by decide)⟩))
theorem rrplOK_s (x : RepD) (w : World) : Rets Tryz.prog 26 #[.agg (RepD.cells x).toArray] w fun u_ w' => u_ = .bool (decide x.ok) ∧ Own w [] [] w' := by
  refine fn_enter (args := [.agg (RepD.cells x).toArray]) Tryz.func26 rfl Tryz.ntmps26 rfl (Own.start w) ?_
  refine c_reg (l_box rfl rfl (fun b1 => l_as rfl (l_end (c_reg (l_fld (o := 2) rfl (by kernel_rfl) rfl (l_ldo 0 (v := .int .i64 x.e) rfl rfl rfl (by kernel_rfl) rfl (l_geq rfl rfl rfl (l_mv rfl (l_band (q := 0 ≤ x.e) 3 3 [9, 8, 7] (x.e ≤ 20) rfl rfl rfl rfl rfl rfl trivial rfl (fun h1_3 => ?_) (fun g1_7 => ?_))))))))))
  ·
   refine l_on rfl (gT h1_3) (l_fld (o := 2) rfl (by kernel_rfl) rfl (l_on rfl (gT h1_3) (l_ldo 0 (v := .int .i64 x.e) rfl rfl rfl (by kernel_rfl) rfl (l_on rfl (gT h1_3) (l_leq rfl rfl rfl ?_)))))
   exact l_nil (fun w' hw => ⟨(by repeat (first | exact .refl _ _ | refine .upd rfl ?_ | refine .msk rfl ?_)), rfl, hw⟩)
  refine l_as rfl (l_end ?_)
  exact c_ret (ret1 (v := .bool (decide ((0 ≤ x.e) ∧ (x.e ≤ 20)))) rfl rfl (fun w' hw => ⟨rfl, hw.drop⟩))
theorem askSound_s (x : AskD) (cb : Nat) (w : World) (hx : x.key.size ≤ 1048576) (hc : x.cmd.key.size ≤ 1048576) (hcb : Rd w [] (Res.row cb 154 [.func (.func 105) #[] #[], .func (.func 106) #[] #[], .func (.func 107) #[] #[]])) : Rets Tryz.prog 85 #[.agg (AskD.cells x).toArray, .pointer (some ⟨cb, 0, none⟩)] w fun u_ w' => u_ = .bool (decide x.ok) ∧ Own w [] [] w' := by
  refine fn_enter (args := [.agg (AskD.cells x).toArray, .pointer (some ⟨cb, 0, none⟩)]) Tryz.func85 rfl Tryz.ntmps85 rfl (Own.start w) ?_
  refine c_reg (l_box rfl rfl (fun b2 => l_as rfl (l_end (c_seq (c_reg (l_fld (o := 0) rfl (by kernel_rfl) rfl (l_ldo 0 (v := .bool x.look) rfl rfl rfl (by kernel_rfl) rfl (l_end (c_if rfl (fun c1 => ?_) (fun c1 => ?_))))))))))
  ·
   refine c_reg (l_fld (o := 3) rfl (by kernel_rfl) rfl (l_ldoN (cs := (AskD.cells x)) 0 (CmdD.cells x.cmd) rfl rfl (sub_at' 3 rfl) (by kernel_rfl) rfl (l_bld (cs := [.int .u64 (0 : Nat), .int .u64 (0 : Nat), .int .i64 0, .string (⟨#[]⟩ : ByteArray), .int .i64 0, .int .i64 0, .int .u64 (0 : Nat)]) (z := [.int .u64 (0 : Nat), .int .u64 (0 : Nat), .int .i64 0, .string (⟨#[]⟩ : ByteArray), .int .i64 0, .int .i64 0, .int .u64 (0 : Nat)]) (pl := [(0, 1), (1, 1), (2, 1), (3, 1), (4, 1), (5, 1), (6, 1)]) (by kernel_rfl) (by kernel_rfl) rfl (l_val rfl (v_stp (CmdDEq x.cmd ({ session := 0, seq := 0, op := 0, key := (⟨#[]⟩ : ByteArray), amount := 0, span := 0, lease := 0 } : CmdD)) (by kernel_rfl) (by kernel_rfl) rfl rfl rfl rfl) (l_mv rfl (l_band (q := x.cmd = ({ session := 0, seq := 0, op := 0, key := (⟨#[]⟩ : ByteArray), amount := 0, span := 0, lease := 0 } : CmdD)) 4 4 [14, 13, 12, 11] (((x.key.size : Nat) : Int) ≤ 64) rfl rfl rfl rfl rfl rfl trivial rfl (fun h2_4 => ?_) (fun g2_9 => ?_)))))))
   ·
    refine l_on rfl (gT h2_4) (l_fld (o := 10) rfl (by kernel_rfl) rfl (l_on rfl (gT h2_4) (l_ldo 0 (v := .string x.key) rfl rfl rfl (by kernel_rfl) rfl (l_on rfl (gT h2_4) (l_lens (by kernel_rfl) rfl rfl (l_on rfl (gT h2_4) (l_leq rfl rfl rfl ?_)))))))
    exact l_nil (fun w' hw => ⟨(by repeat (first | exact .refl _ _ | refine .upd rfl ?_ | refine .msk rfl ?_)), rfl, hw⟩)
   refine l_as rfl (l_end ?_)
   exact c_ret (ret1 (v := .bool (decide ((x.cmd = ({ session := 0, seq := 0, op := 0, key := (⟨#[]⟩ : ByteArray), amount := 0, span := 0, lease := 0 } : CmdD)) ∧ (((x.key.size : Nat) : Int) ≤ 64)))) rfl rfl (fun w' hw => ⟨(by congr 1; exact decide_eq_decide.2 (by unfold AskD.ok; rw [if_pos c1]; exact and_congr_right fun _ => by omega)), hw.drop⟩))
  ·
   refine c_skipC (c_reg (l_fld (o := 0) rfl (by kernel_rfl) rfl (l_ldq (v := .func (.func 105) #[] #[]) rfl (hcb.φ.cell rfl) (hcb.far _ (by simp [Res.row])) (by kernel_rfl) rfl (l_fld (o := 3) rfl (by kernel_rfl) rfl (l_ldoN (cs := (AskD.cells x)) 0 (CmdD.cells x.cmd) rfl rfl (sub_at' 3 rfl) (by kernel_rfl) rfl (l_callv (fst := []) (cap := []) rfl (by kernel_rfl) rfl rfl (fun w' hw => (cmdSound_s x.cmd w' (by first | assumption | omega | (simp <;> omega) | (constructor <;> (first | omega | (simp only [LenOk]; omega) | (simp <;> omega))))).mono ?_)))))))
   rintro _ w1 ⟨rfl, hO⟩
   refine (?_ : CL _ _ _ _ _ _ (Own w [] [Res.row b2 44 (AskD.cells x)])) w1 (hw.frame0 hO)
   refine l_mv rfl (l_band (q := x.cmd.ok) 3 5 [24, 23, 22] (x.key = (⟨#[]⟩ : ByteArray)) rfl rfl rfl rfl rfl rfl trivial rfl (fun h3_5 => ?_) (fun g3_9 => ?_))
   ·
    refine l_on rfl (gT h3_5) (l_fld (o := 10) rfl (by kernel_rfl) rfl (l_on rfl (gT h3_5) (l_ldo 0 (v := .string x.key) rfl rfl rfl (by kernel_rfl) rfl (l_on rfl (gT h3_5) (l_seq rfl rfl rfl ?_)))))
    exact l_nil (fun w' hw => ⟨(by repeat (first | exact .refl _ _ | refine .upd rfl ?_ | refine .msk rfl ?_)), rfl, hw⟩)
   refine l_mv rfl (l_band (q := x.cmd.ok ∧ (x.key = (⟨#[]⟩ : ByteArray))) 3 10 [29, 28, 27] ((!x.lazy) = true) rfl rfl rfl rfl rfl rfl trivial rfl (fun h3_10 => ?_) (fun g3_14 => ?_))
   ·
    refine l_on rfl (gT h3_10) (l_fld (o := 1) rfl (by kernel_rfl) rfl (l_on rfl (gT h3_10) (l_ldo 0 (v := .bool x.lazy) rfl rfl rfl (by kernel_rfl) rfl (l_on rfl (gT h3_10) (l_not (b := x.lazy) rfl rfl ?_)))))
    exact l_nil (fun w' hw => ⟨(by repeat (first | exact .refl _ _ | refine .upd rfl ?_ | refine .msk rfl ?_)), (bool_dec _), hw⟩)
   refine l_as rfl (l_end ?_)
   exact c_ret (ret1 (v := .bool (decide ((x.cmd.ok ∧ (x.key = (⟨#[]⟩ : ByteArray))) ∧ ((!x.lazy) = true)))) rfl rfl (fun w' hw => ⟨(by congr 1; exact decide_eq_decide.2 (by unfold AskD.ok; rw [if_neg (by rw [c1]; decide)]; cases x.lazy <;> simp)), hw.drop⟩))
theorem tldSound_s (x : TldD) (cb : Nat) (w : World) (hcb : Rd w [] (Res.row cb 121 [.func (.func 79) #[] #[], .func (.func 80) #[] #[], .func (.func 81) #[] #[]])) : Rets Tryz.prog 61 #[.agg (TldD.cells x).toArray, .pointer (some ⟨cb, 0, none⟩)] w fun u_ w' => u_ = .bool (decide x.ok) ∧ Own w [] [] w' := by
  refine fn_enter (args := [.agg (TldD.cells x).toArray, .pointer (some ⟨cb, 0, none⟩)]) Tryz.func61 rfl Tryz.ntmps61 rfl (Own.start w) ?_
  refine c_reg (l_box rfl rfl (fun b2 => l_as rfl (l_end (c_reg (l_fld (o := 2) rfl (by kernel_rfl) rfl (l_ldo 0 (v := .int .i64 x.lead) rfl rfl rfl (by kernel_rfl) rfl (l_geq rfl rfl rfl (l_mv rfl (l_band (q := 0 ≤ x.lead) 3 3 [10, 9, 8] (x.lead ≤ 16) rfl rfl rfl rfl rfl rfl trivial rfl (fun h1_3 => ?_) (fun g1_7 => ?_))))))))))
  ·
   refine l_on rfl (gT h1_3) (l_fld (o := 2) rfl (by kernel_rfl) rfl (l_on rfl (gT h1_3) (l_ldo 0 (v := .int .i64 x.lead) rfl rfl rfl (by kernel_rfl) rfl (l_on rfl (gT h1_3) (l_leq rfl rfl rfl ?_)))))
   exact l_nil (fun w' hw => ⟨(by repeat (first | exact .refl _ _ | refine .upd rfl ?_ | refine .msk rfl ?_)), rfl, hw⟩)
  refine l_mv rfl (l_band (q := (0 ≤ x.lead) ∧ (x.lead ≤ 16)) 5 8 [17, 16, 15, 14, 13] (x.reply.ok) rfl rfl rfl rfl rfl rfl trivial rfl (fun h1_8 => ?_) (fun g1_14 => ?_))
  ·
   refine l_on rfl (gT h1_8) (l_fld (o := 0) rfl (by kernel_rfl) rfl (l_on rfl (gT h1_8) (l_ldq (v := .func (.func 79) #[] #[]) rfl (hcb.φ.cell rfl) (hcb.far _ (by simp [Res.row])) (by kernel_rfl) rfl (l_on rfl (gT h1_8) (l_fld (o := 3) rfl (by kernel_rfl) rfl (l_on rfl (gT h1_8) (l_ldoN (cs := (TldD.cells x)) 0 (RepD.cells x.reply) rfl rfl (sub_at' 3 rfl) (by kernel_rfl) rfl (l_on rfl (gT h1_8) (l_callv (fst := []) (cap := []) rfl (by kernel_rfl) rfl rfl (fun w' hw => (repSound_s x.reply w').mono ?_))))))))))
   rintro _ w1 ⟨rfl, hO⟩
   refine (?_ : CL _ _ _ _ _ _ (Own w [] [Res.row b2 28 (TldD.cells x)])) w1 (hw.frame0 hO)
   exact l_nil (fun w' hw => ⟨(by repeat (first | exact .refl _ _ | refine .upd rfl ?_ | refine .msk rfl ?_)), rfl, hw⟩)
  refine l_as rfl (l_end ?_)
  exact c_ret (ret1 (v := .bool (decide (((0 ≤ x.lead) ∧ (x.lead ≤ 16)) ∧ x.reply.ok))) rfl rfl (fun w' hw => ⟨rfl, hw.drop⟩))
theorem rtldOK_s (x : TldD) (w : World) : Rets Tryz.prog 12 #[.agg (TldD.cells x).toArray] w fun u_ w' => u_ = .bool (decide x.ok) ∧ Own w [] [] w' := by
  refine fn_enter (args := [.agg (TldD.cells x).toArray]) Tryz.func12 rfl Tryz.ntmps12 rfl (Own.start w) ?_
  refine c_reg (l_box rfl rfl (fun b1 => l_as rfl (l_end (c_reg (l_fld (o := 2) rfl (by kernel_rfl) rfl (l_ldo 0 (v := .int .i64 x.lead) rfl rfl rfl (by kernel_rfl) rfl (l_geq rfl rfl rfl (l_mv rfl (l_band (q := 0 ≤ x.lead) 3 3 [9, 8, 7] (x.lead ≤ 16) rfl rfl rfl rfl rfl rfl trivial rfl (fun h1_3 => ?_) (fun g1_7 => ?_))))))))))
  ·
   refine l_on rfl (gT h1_3) (l_fld (o := 2) rfl (by kernel_rfl) rfl (l_on rfl (gT h1_3) (l_ldo 0 (v := .int .i64 x.lead) rfl rfl rfl (by kernel_rfl) rfl (l_on rfl (gT h1_3) (l_leq rfl rfl rfl ?_)))))
   exact l_nil (fun w' hw => ⟨(by repeat (first | exact .refl _ _ | refine .upd rfl ?_ | refine .msk rfl ?_)), rfl, hw⟩)
  refine l_mv rfl (l_band (q := (0 ≤ x.lead) ∧ (x.lead ≤ 16)) 3 8 [14, 13, 12] (x.reply.ok) rfl rfl rfl rfl rfl rfl trivial rfl (fun h1_8 => ?_) (fun g1_12 => ?_))
  ·
   refine l_on rfl (gT h1_8) (l_fld (o := 3) rfl (by kernel_rfl) rfl (l_on rfl (gT h1_8) (l_ldoN (cs := (TldD.cells x)) 0 (RepD.cells x.reply) rfl rfl (sub_at' 3 rfl) (by kernel_rfl) rfl (l_on rfl (gT h1_8) (l_call (by kernel_rfl) rfl rfl (fun w' hw => (rrplOK_s x.reply w').mono ?_))))))
   rintro _ w1 ⟨rfl, hO⟩
   refine (?_ : CL _ _ _ _ _ _ (Own w [] [Res.row b1 28 (TldD.cells x)])) w1 (hw.frame0 hO)
   exact l_nil (fun w' hw => ⟨(by repeat (first | exact .refl _ _ | refine .upd rfl ?_ | refine .msk rfl ?_)), rfl, hw⟩)
  refine l_as rfl (l_end ?_)
  exact c_ret (ret1 (v := .bool (decide (((0 ≤ x.lead) ∧ (x.lead ≤ 16)) ∧ x.reply.ok))) rfl rfl (fun w' hw => ⟨rfl, hw.drop⟩))
theorem tldRead_s {S : List Nat} (o : Nat) (v : Value) (b : List UInt8) (a : Nat) (bad : Bool) (cb : Nat) (w : World) (hl : LenOk b.length) (ha : a ≤ b.length) (hin : Own w S [Res.row o 130 [v, .int .i64 (a : Nat), .bool bad]] w) (hcb : Rd w S (Res.row cb 121 [.func (.func 79) #[] #[], .func (.func 80) #[] #[], .func (.func 81) #[] #[]])) (hb : Rd w S (Res.sl v b.length (b.map vb))) : Rets Tryz.prog 66 #[.pointer (some ⟨o, 0, none⟩), .pointer (some ⟨cb, 0, none⟩)] w fun u_ w' => ∃ (sq : Nat) (rt : Bool) (ld : Nat) (s : Nat) (q : Nat) (op : Nat) (le : Nat) (am : Int) (sp : Int) (mo : Int) (ln : Int) (a' : Nat) (bad' : Bool), u_ = .agg #[.int .u64 (sq : Nat), .bool rt, .int .i64 (ld : Nat), .int .u64 (s : Nat), .int .u64 (q : Nat), .int .i64 (op : Nat), .int .u64 (le : Nat), .int .i64 am, .int .i64 sp, .int .i64 mo, .int .i64 ln] ∧ RdS pTld b a bad (⟨sq, rt, (ld : Int), ⟨s, q, (op : Int), le, am, sp⟩, mo, ln⟩ : TldD) a' bad' ∧ Own w S [Res.row o 130 [v, .int .i64 (a' : Nat), .bool bad']] w' := by
  refine fn_enter (args := [.pointer (some ⟨o, 0, none⟩), .pointer (some ⟨cb, 0, none⟩)]) Tryz.func66 rfl Tryz.ntmps66 rfl (show Own w S [Res.row o 130 [v, .int .i64 (a : Nat), .bool bad]] w from hin) ?_
  refine c_reg (l_new (v := .agg #[.int .u64 (0 : Nat), .bool false, .int .i64 0, .int .u64 (0 : Nat), .int .u64 (0 : Nat), .int .i64 0, .int .u64 (0 : Nat), .int .i64 0, .int .i64 0, .int .i64 0, .int .i64 0]) (by kernel_rfl) rfl (fun b3 => l_end (c_seq (c_heldo [] rfl (by decide) (by kernel_rfl) (fun w' hw hS => h_tk 0 rfl (by kernel_rfl) (v_mv) hS (h_tk 2 rfl (by kernel_rfl) (v_mv) hS (h_tk 4 rfl (by kernel_rfl) (v_mv) hS (h_tk 6 rfl (by kernel_rfl) (v_fld (o := 2) rfl (by kernel_rfl)) hS (h_tk 7 rfl (by kernel_rfl) (v_ldq (v := .func (.func 81) #[] #[]) rfl (hcb.φ.cell rfl) (hcb.far _ (by simp [Res.row])) (by kernel_rfl)) hS (h_tk 8 rfl (by kernel_rfl) (v_mv) hS (h_tk 10 rfl (by kernel_rfl) (v_mv) hS (h_tk 13 rfl (by kernel_rfl) (v_mv) hS ?_))))))))))))
  refine h_one 1 (by kernel_rfl) rfl hw (l_call (by kernel_rfl) rfl rfl (fun w' hw => (inNum_s o v b a bad w' (by first | assumption | omega | (simp <;> omega) | (constructor <;> (first | omega | (simp only [LenOk]; omega) | (simp <;> omega)))) (by first | assumption | omega | (simp <;> omega) | (constructor <;> (first | omega | (simp only [LenOk]; omega) | (simp <;> omega)))) (hw.give [0] rfl (by decide)) (hw.rdTo hb [0] rfl)).mono ?_))
  rintro _ w1 ⟨n1_, a'2_, bad'3_, rfl, hf1_1, hf1_1_1, hO⟩
  have hq1 := hf1_1.le
  refine (?_ : CL _ _ _ _ _ _ (Own w S [Res.row b3 28 [.int .u64 (0 : Nat), .bool false, .int .i64 0, .int .u64 (0 : Nat), .int .u64 (0 : Nat), .int .i64 0, .int .u64 (0 : Nat), .int .i64 0, .int .i64 0, .int .i64 0, .int .i64 0], Res.row o 130 [v, .int .i64 (a'2_ : Nat), .bool bad'3_]])) w1 (hw.frameL [0] rfl hO)
  refine l_nilH [] rfl (by decide) (fun w' hw hS => h_one 3 (by kernel_rfl) rfl hw (l_call (by kernel_rfl) rfl rfl (fun w' hw => (inFlag_s o v b a'2_ bad'3_ w' (by first | assumption | omega | (simp <;> omega) | (constructor <;> (first | omega | (simp only [LenOk]; omega) | (simp <;> omega)))) (by first | assumption | omega | (simp <;> omega) | (constructor <;> (first | omega | (simp only [LenOk]; omega) | (simp <;> omega)))) (hw.give [1] rfl (by decide)) (hw.rdTo hb [1] rfl)).mono ?_)))
  rintro _ w1 ⟨f4_, a'5_, bad'6_, rfl, hf1_3, hO⟩
  have hq2 := hf1_3.le
  refine (?_ : CL _ _ _ _ _ _ (Own w S [Res.row b3 28 [.int .u64 (0 : Nat), .bool false, .int .i64 0, .int .u64 (0 : Nat), .int .u64 (0 : Nat), .int .i64 0, .int .u64 (0 : Nat), .int .i64 0, .int .i64 0, .int .i64 0, .int .i64 0], Res.row o 130 [v, .int .i64 (a'5_ : Nat), .bool bad'6_]])) w1 (hw.frameL [1] rfl hO)
  refine l_nilH [] rfl (by decide) (fun w' hw hS => h_one 5 (by kernel_rfl) rfl hw (l_call (by kernel_rfl) rfl rfl (fun w' hw => (inUpto_s o v b a'5_ bad'6_ 16 w' (by first | assumption | omega | (simp <;> omega) | (constructor <;> (first | omega | (simp only [LenOk]; omega) | (simp <;> omega)))) (by first | assumption | omega | (simp <;> omega) | (constructor <;> (first | omega | (simp only [LenOk]; omega) | (simp <;> omega)))) (by first | assumption | omega | (simp <;> omega) | (constructor <;> (first | omega | (simp only [LenOk]; omega) | (simp <;> omega)))) (hw.give [1] rfl (by decide)) (hw.rdTo hb [1] rfl)).mono ?_)))
  rintro _ w1 ⟨n7_, a'8_, bad'9_, rfl, hf1_5, hf1_5_1, hO⟩
  have hq3 := hf1_5.le
  refine (?_ : CL _ _ _ _ _ _ (Own w S [Res.row b3 28 [.int .u64 (0 : Nat), .bool false, .int .i64 0, .int .u64 (0 : Nat), .int .u64 (0 : Nat), .int .i64 0, .int .u64 (0 : Nat), .int .i64 0, .int .i64 0, .int .i64 0, .int .i64 0], Res.row o 130 [v, .int .i64 (a'8_ : Nat), .bool bad'9_]])) w1 (hw.frameL [1] rfl hO)
  refine l_nilH [] rfl (by decide) (fun w' hw hS => h_one 9 (by kernel_rfl) rfl hw (l_callv (fst := []) (cap := []) rfl (by kernel_rfl) rfl rfl (fun w' hw => (replyRead_s o v b a'8_ bad'9_ w' (by first | assumption | omega | (simp <;> omega) | (constructor <;> (first | omega | (simp only [LenOk]; omega) | (simp <;> omega)))) (by first | assumption | omega | (simp <;> omega) | (constructor <;> (first | omega | (simp only [LenOk]; omega) | (simp <;> omega)))) (hw.give [1] rfl (by decide)) (hw.rdTo hb [1] rfl)).mono ?_)))
  rintro _ w1 ⟨s10_, q11_, op12_, le13_, am14_, sp15_, a'16_, bad'17_, rfl, hf1_9, hO⟩
  have hq4 := hf1_9.le
  refine (?_ : CL _ _ _ _ _ _ (Own w S [Res.row b3 28 [.int .u64 (0 : Nat), .bool false, .int .i64 0, .int .u64 (0 : Nat), .int .u64 (0 : Nat), .int .i64 0, .int .u64 (0 : Nat), .int .i64 0, .int .i64 0, .int .i64 0, .int .i64 0], Res.row o 130 [v, .int .i64 (a'16_ : Nat), .bool bad'17_]])) w1 (hw.frameL [1] rfl hO)
  refine l_nilH [] rfl (by decide) (fun w' hw hS => h_one 11 (by kernel_rfl) rfl hw (l_call (by kernel_rfl) rfl rfl (fun w' hw => (inNum_s o v b a'16_ bad'17_ w' (by first | assumption | omega | (simp <;> omega) | (constructor <;> (first | omega | (simp only [LenOk]; omega) | (simp <;> omega)))) (by first | assumption | omega | (simp <;> omega) | (constructor <;> (first | omega | (simp only [LenOk]; omega) | (simp <;> omega)))) (hw.give [1] rfl (by decide)) (hw.rdTo hb [1] rfl)).mono ?_)))
  rintro _ w1 ⟨n18_, a'19_, bad'20_, rfl, hf1_11, hf1_11_1, hO⟩
  have hq5 := hf1_11.le
  refine (?_ : CL _ _ _ _ _ _ (Own w S [Res.row b3 28 [.int .u64 (0 : Nat), .bool false, .int .i64 0, .int .u64 (0 : Nat), .int .u64 (0 : Nat), .int .i64 0, .int .u64 (0 : Nat), .int .i64 0, .int .i64 0, .int .i64 0, .int .i64 0], Res.row o 130 [v, .int .i64 (a'19_ : Nat), .bool bad'20_]])) w1 (hw.frameL [1] rfl hO)
  refine l_nilH [] rfl (by decide) (fun w' hw hS => h_tk 12 rfl (by kernel_rfl) (v_cvt (c := toI n18_) (by kernel_rfl) rfl (wrap_toI hf1_11_1) (by kernel_rfl)) hS (h_one 14 (by kernel_rfl) rfl hw (l_call (by kernel_rfl) rfl rfl (fun w' hw => (inNum_s o v b a'19_ bad'20_ w' (by first | assumption | omega | (simp <;> omega) | (constructor <;> (first | omega | (simp only [LenOk]; omega) | (simp <;> omega)))) (by first | assumption | omega | (simp <;> omega) | (constructor <;> (first | omega | (simp only [LenOk]; omega) | (simp <;> omega)))) (hw.give [1] rfl (by decide)) (hw.rdTo hb [1] rfl)).mono ?_))))
  rintro _ w1 ⟨n21_, a'22_, bad'23_, rfl, hf1_14, hf1_14_1, hO⟩
  refine (?_ : CL _ _ _ _ _ _ (Own w S [Res.row b3 28 [.int .u64 (0 : Nat), .bool false, .int .i64 0, .int .u64 (0 : Nat), .int .u64 (0 : Nat), .int .i64 0, .int .u64 (0 : Nat), .int .i64 0, .int .i64 0, .int .i64 0, .int .i64 0], Res.row o 130 [v, .int .i64 (a'22_ : Nat), .bool bad'23_]])) w1 (hw.frameL [1] rfl hO)
  refine l_nilH [] rfl (by decide) (fun w' hw hS => h_tk 15 rfl (by kernel_rfl) (v_cvt (c := toI n21_) (by kernel_rfl) rfl (wrap_toI hf1_14_1) (by kernel_rfl)) hS (h_tk 16 rfl (by kernel_rfl) (v_bld (cs := [.int .u64 (n1_ : Nat), .bool f4_, .int .i64 (n7_ : Nat), .int .u64 (s10_ : Nat), .int .u64 (q11_ : Nat), .int .i64 (op12_ : Nat), .int .u64 (le13_ : Nat), .int .i64 am14_, .int .i64 sp15_, .int .i64 (toI n18_), .int .i64 (toI n21_)]) (z := [.int .u64 (0 : Nat), .bool false, .int .i64 0, .int .u64 (0 : Nat), .int .u64 (0 : Nat), .int .i64 0, .int .u64 (0 : Nat), .int .i64 0, .int .i64 0, .int .i64 0, .int .i64 0]) (pl := [(0, 1), (1, 1), (2, 1), (3, 6), (9, 1), (10, 1)]) (by kernel_rfl) (by kernel_rfl)) hS (h_one 17 (by kernel_rfl) rfl hw (l_stN (cs := [.int .u64 (0 : Nat), .bool false, .int .i64 0, .int .u64 (0 : Nat), .int .u64 (0 : Nat), .int .i64 0, .int .u64 (0 : Nat), .int .i64 0, .int .i64 0, .int .i64 0, .int .i64 0]) (vs := [.int .u64 (n1_ : Nat), .bool f4_, .int .i64 (n7_ : Nat), .int .u64 (s10_ : Nat), .int .u64 (q11_ : Nat), .int .i64 (op12_ : Nat), .int .u64 (le13_ : Nat), .int .i64 am14_, .int .i64 sp15_, .int .i64 (toI n18_), .int .i64 (toI n21_)]) 0 rfl rfl rfl (by kernel_rfl) (allc_cons rfl (allc_cons rfl (allc_cons rfl (allc_cons rfl (allc_cons rfl (allc_cons rfl (allc_cons rfl (allc_cons rfl (allc_cons rfl (allc_cons rfl (allc_cons rfl allc_nil))))))))))) (Nat.le_of_ble_eq_true rfl) (l_nilH [] rfl (by decide) (fun w' hw hS => h_done (by kernel_rfl) ?_))))))
  refine (?_ : C _ _ _ _ _ _ _ (Own w S [Res.row b3 28 [.int .u64 (n1_ : Nat), .bool f4_, .int .i64 (n7_ : Nat), .int .u64 (s10_ : Nat), .int .u64 (q11_ : Nat), .int .i64 (op12_ : Nat), .int .u64 (le13_ : Nat), .int .i64 am14_, .int .i64 sp15_, .int .i64 (toI n18_), .int .i64 (toI n21_)], Res.row o 130 [v, .int .i64 (a'22_ : Nat), .bool bad'23_]])) _ hw
  exact c_ret (retc (cs := [.int .u64 (n1_ : Nat), .bool f4_, .int .i64 (n7_ : Nat), .int .u64 (s10_ : Nat), .int .u64 (q11_ : Nat), .int .i64 (op12_ : Nat), .int .u64 (le13_ : Nat), .int .i64 am14_, .int .i64 sp15_, .int .i64 (toI n18_), .int .i64 (toI n21_)]) rfl rfl (by kernel_rfl) (Own.rowCells (i := 0) rfl) (fun w' hw => ⟨n1_, f4_, n7_, s10_, q11_, op12_, le13_, am14_, sp15_, toI n18_, toI n21_, a'22_, bad'23_, rfl, hf1_1.bind (hf1_3.bind (RdS.bind hf1_5.int (hf1_9.bind (hf1_11.bind (hf1_14.bind (RdS.pure _ hf1_14.le)))))), hw.sel [1] rfl (by decide)⟩))
theorem asks_s (w : World) : Rets Tryz.prog 70 #[] w fun u_ w' => ∃ (cb : Nat), u_ = .agg #[.func (.func 85) #[] #[.pointer (some ⟨cb, 0, none⟩)], .func (.func 86) #[] #[.pointer (some ⟨cb, 0, none⟩)], .func (.func 88) #[] #[.pointer (some ⟨cb, 0, none⟩)]] ∧ Own w [] [Res.row cb 154 [.func (.func 105) #[] #[], .func (.func 106) #[] #[], .func (.func 107) #[] #[]]] w' := by
  refine fn_enter (args := []) Tryz.func70 rfl Tryz.ntmps70 rfl (Own.start w) ?_
  refine c_reg (l_new (v := .agg #[.nilFunc, .nilFunc, .nilFunc]) (by kernel_rfl) rfl (fun b0 => l_end (c_reg (l_call (by kernel_rfl) rfl rfl (fun w' hw => (commands_s w').mono ?_)))))
  rintro _ w1 ⟨rfl, hO⟩
  refine (?_ : CL _ _ _ _ _ _ (Own w [] [Res.row b0 135 [.nilFunc, .nilFunc, .nilFunc]])) w1 (hw.frame0 hO)
  refine l_new (v := .agg #[.nilFunc, .nilFunc, .nilFunc]) (by kernel_rfl) rfl (fun b1 => l_stN (cs := [.nilFunc, .nilFunc, .nilFunc]) (vs := [.func (.func 105) #[] #[], .func (.func 106) #[] #[], .func (.func 107) #[] #[]]) 1 rfl rfl rfl (by kernel_rfl) (allc_cons rfl (allc_cons rfl (allc_cons rfl allc_nil))) (Nat.le_of_ble_eq_true rfl) (l_end (c_reg (l_fn (va := []) (vb := [.pointer (some ⟨b1, 0, none⟩)]) rfl rfl rfl (l_fn (va := []) (vb := [.pointer (some ⟨b1, 0, none⟩)]) rfl rfl rfl (l_fn (va := []) (vb := [.pointer (some ⟨b1, 0, none⟩)]) rfl rfl rfl (l_bld (cs := [.func (.func 85) #[] #[.pointer (some ⟨b1, 0, none⟩)], .func (.func 86) #[] #[.pointer (some ⟨b1, 0, none⟩)], .func (.func 88) #[] #[.pointer (some ⟨b1, 0, none⟩)]]) (z := [.nilFunc, .nilFunc, .nilFunc]) (pl := [(0, 1), (1, 1), (2, 1)]) (by kernel_rfl) (by kernel_rfl) rfl (l_stN (cs := [.nilFunc, .nilFunc, .nilFunc]) (vs := [.func (.func 85) #[] #[.pointer (some ⟨b1, 0, none⟩)], .func (.func 86) #[] #[.pointer (some ⟨b1, 0, none⟩)], .func (.func 88) #[] #[.pointer (some ⟨b1, 0, none⟩)]]) 0 rfl rfl rfl (by kernel_rfl) (allc_cons rfl (allc_cons rfl (allc_cons rfl allc_nil))) (Nat.le_of_ble_eq_true rfl) (l_end ?_)))))))))
  exact c_ret (retc (cs := [.func (.func 85) #[] #[.pointer (some ⟨b1, 0, none⟩)], .func (.func 86) #[] #[.pointer (some ⟨b1, 0, none⟩)], .func (.func 88) #[] #[.pointer (some ⟨b1, 0, none⟩)]]) rfl rfl (by kernel_rfl) (Own.rowCells (i := 0) rfl) (fun w' hw => ⟨b1, rfl, hw.sel [1] rfl (by decide)⟩))
theorem tolds_s (w : World) : Rets Tryz.prog 44 #[] w fun u_ w' => ∃ (cb : Nat), u_ = .agg #[.func (.func 61) #[] #[.pointer (some ⟨cb, 0, none⟩)], .func (.func 62) #[] #[.pointer (some ⟨cb, 0, none⟩)], .func (.func 66) #[] #[.pointer (some ⟨cb, 0, none⟩)]] ∧ Own w [] [Res.row cb 121 [.func (.func 79) #[] #[], .func (.func 80) #[] #[], .func (.func 81) #[] #[]]] w' := by
  refine fn_enter (args := []) Tryz.func44 rfl Tryz.ntmps44 rfl (Own.start w) ?_
  refine c_reg (l_new (v := .agg #[.nilFunc, .nilFunc, .nilFunc]) (by kernel_rfl) rfl (fun b0 => l_end (c_reg (l_call (by kernel_rfl) rfl rfl (fun w' hw => (replies_s w').mono ?_)))))
  rintro _ w1 ⟨rfl, hO⟩
  refine (?_ : CL _ _ _ _ _ _ (Own w [] [Res.row b0 103 [.nilFunc, .nilFunc, .nilFunc]])) w1 (hw.frame0 hO)
  refine l_new (v := .agg #[.nilFunc, .nilFunc, .nilFunc]) (by kernel_rfl) rfl (fun b1 => l_stN (cs := [.nilFunc, .nilFunc, .nilFunc]) (vs := [.func (.func 79) #[] #[], .func (.func 80) #[] #[], .func (.func 81) #[] #[]]) 1 rfl rfl rfl (by kernel_rfl) (allc_cons rfl (allc_cons rfl (allc_cons rfl allc_nil))) (Nat.le_of_ble_eq_true rfl) (l_end (c_reg (l_fn (va := []) (vb := [.pointer (some ⟨b1, 0, none⟩)]) rfl rfl rfl (l_fn (va := []) (vb := [.pointer (some ⟨b1, 0, none⟩)]) rfl rfl rfl (l_fn (va := []) (vb := [.pointer (some ⟨b1, 0, none⟩)]) rfl rfl rfl (l_bld (cs := [.func (.func 61) #[] #[.pointer (some ⟨b1, 0, none⟩)], .func (.func 62) #[] #[.pointer (some ⟨b1, 0, none⟩)], .func (.func 66) #[] #[.pointer (some ⟨b1, 0, none⟩)]]) (z := [.nilFunc, .nilFunc, .nilFunc]) (pl := [(0, 1), (1, 1), (2, 1)]) (by kernel_rfl) (by kernel_rfl) rfl (l_stN (cs := [.nilFunc, .nilFunc, .nilFunc]) (vs := [.func (.func 61) #[] #[.pointer (some ⟨b1, 0, none⟩)], .func (.func 62) #[] #[.pointer (some ⟨b1, 0, none⟩)], .func (.func 66) #[] #[.pointer (some ⟨b1, 0, none⟩)]]) 0 rfl rfl rfl (by kernel_rfl) (allc_cons rfl (allc_cons rfl (allc_cons rfl allc_nil))) (Nat.le_of_ble_eq_true rfl) (l_end ?_)))))))))
  exact c_ret (retc (cs := [.func (.func 61) #[] #[.pointer (some ⟨b1, 0, none⟩)], .func (.func 62) #[] #[.pointer (some ⟨b1, 0, none⟩)], .func (.func 66) #[] #[.pointer (some ⟨b1, 0, none⟩)]]) rfl rfl (by kernel_rfl) (Own.rowCells (i := 0) rfl) (fun w' hw => ⟨b1, rfl, hw.sel [1] rfl (by decide)⟩))
theorem tldValue_s (v : Value) (b : List UInt8) (cb : Nat) (w : World) (hl : b.length ≤ 1048576) (hcb : Rd w [] (Res.row cb 121 [.func (.func 79) #[] #[], .func (.func 80) #[] #[], .func (.func 81) #[] #[]])) (hb : Rd w [] (Res.sl v b.length (b.map vb))) : Rets Tryz.prog 45 #[.agg #[.func (.func 61) #[] #[.pointer (some ⟨cb, 0, none⟩)], .func (.func 62) #[] #[.pointer (some ⟨cb, 0, none⟩)], .func (.func 66) #[] #[.pointer (some ⟨cb, 0, none⟩)]], v] w fun u_ w' => ∃ (sq : Nat) (rt : Bool) (ld : Int) (s : Nat) (q : Nat) (op : Int) (le : Nat) (am : Int) (sp : Int) (mo : Int) (ln : Int) (e : Int), u_ = .tuple #[.agg #[.int .u64 (sq : Nat), .bool rt, .int .i64 ld, .int .u64 (s : Nat), .int .u64 (q : Nat), .int .i64 op, .int .u64 (le : Nat), .int .i64 am, .int .i64 sp, .int .i64 mo, .int .i64 ln], .int .i64 e] ∧ ValPost (decTld b) (⟨sq, rt, ld, ⟨s, q, op, le, am, sp⟩, mo, ln⟩ : TldD) tldZ e ∧ Own w [] [] w' := by
  refine fn_enter (args := [.agg #[.func (.func 61) #[] #[.pointer (some ⟨cb, 0, none⟩)], .func (.func 62) #[] #[.pointer (some ⟨cb, 0, none⟩)], .func (.func 66) #[] #[.pointer (some ⟨cb, 0, none⟩)]], v]) Tryz.func45 rfl Tryz.ntmps45 rfl (Own.start w) ?_
  refine c_reg (l_box rfl rfl (fun b2 => l_new (v := .agg #[.int .u64 (0 : Nat), .bool false, .int .i64 0, .int .u64 (0 : Nat), .int .u64 (0 : Nat), .int .i64 0, .int .u64 (0 : Nat), .int .i64 0, .int .i64 0, .int .i64 0, .int .i64 0]) (by kernel_rfl) rfl (fun b4 => l_as rfl (l_end (c_reg (l_mv rfl (l_bldc (cs := [v, .int .i64 0, .bool false]) (z := [.slice none 0 0, .int .i64 0, .bool false]) (pl := [(0, 1), (1, 1), (2, 1)]) (by kernel_rfl) ⟨(Sl.cell1 (Rd.φ hb)), trivial⟩ (by kernel_rfl) rfl (l_box rfl rfl (fun b10 => l_as rfl (l_end (c_reg (l_fld (o := 2) rfl (by kernel_rfl) rfl ?_))))))))))))
  refine l_ldo 0 (v := .func (.func 66) #[] #[.pointer (some ⟨cb, 0, none⟩)]) rfl rfl rfl (by kernel_rfl) rfl (l_mv rfl (l_callv (fst := []) (cap := [.pointer (some ⟨cb, 0, none⟩)]) rfl (by kernel_rfl) rfl rfl (fun w' hw => (tldRead_s b10 v b 0 false cb w' (by first | assumption | omega | (simp <;> omega) | (constructor <;> (first | omega | (simp only [LenOk]; omega) | (simp <;> omega)))) (by first | assumption | omega | (simp <;> omega) | (constructor <;> (first | omega | (simp only [LenOk]; omega) | (simp <;> omega)))) (hw.give [2] rfl (by decide)) (hw.rdTo hcb [2] rfl) (hw.rdTo hb [2] rfl)).mono ?_)))
  rintro _ w1 ⟨sq1_, rt2_, ld3_, s4_, q5_, op6_, le7_, am8_, sp9_, mo10_, ln11_, a'12_, bad'13_, rfl, hf2_3, hO⟩
  refine (?_ : CL _ _ _ _ _ _ (Own w [] [Res.row b2 103 [.func (.func 61) #[] #[.pointer (some ⟨cb, 0, none⟩)], .func (.func 62) #[] #[.pointer (some ⟨cb, 0, none⟩)], .func (.func 66) #[] #[.pointer (some ⟨cb, 0, none⟩)]], Res.row b4 28 [.int .u64 (0 : Nat), .bool false, .int .i64 0, .int .u64 (0 : Nat), .int .u64 (0 : Nat), .int .i64 0, .int .u64 (0 : Nat), .int .i64 0, .int .i64 0, .int .i64 0, .int .i64 0], Res.row b10 130 [v, .int .i64 (a'12_ : Nat), .bool bad'13_]])) w1 (hw.frameL [2] rfl hO)
  refine l_stN (cs := [.int .u64 (0 : Nat), .bool false, .int .i64 0, .int .u64 (0 : Nat), .int .u64 (0 : Nat), .int .i64 0, .int .u64 (0 : Nat), .int .i64 0, .int .i64 0, .int .i64 0, .int .i64 0]) (vs := [.int .u64 (sq1_ : Nat), .bool rt2_, .int .i64 (ld3_ : Nat), .int .u64 (s4_ : Nat), .int .u64 (q5_ : Nat), .int .i64 (op6_ : Nat), .int .u64 (le7_ : Nat), .int .i64 am8_, .int .i64 sp9_, .int .i64 mo10_, .int .i64 ln11_]) 1 rfl rfl rfl (by kernel_rfl) (allc_cons rfl (allc_cons rfl (allc_cons rfl (allc_cons rfl (allc_cons rfl (allc_cons rfl (allc_cons rfl (allc_cons rfl (allc_cons rfl (allc_cons rfl (allc_cons rfl allc_nil))))))))))) (Nat.le_of_ble_eq_true rfl) (l_end (c_seq (c_reg (l_mv rfl (l_nck rfl rfl (l_fld (o := 2) rfl (by kernel_rfl) rfl (l_ldo 2 (v := .bool bad'13_) rfl rfl rfl (by kernel_rfl) rfl (l_mv rfl (l_bor (q := bad'13_ = true) 7 4 [26, 25, 24, 23, 22, 21, 20] (((a'12_ : Nat) : Int) ≠ ((b.length : Nat) : Int)) rfl rfl (bool_dec _) rfl rfl rfl trivial rfl (fun h3_4 => ?_) (fun g3_12 => ?_))))))))))
  ·
   refine l_on rfl (bF h3_4) (l_mv rfl (l_on rfl (bF h3_4) (l_nck rfl rfl (l_on rfl (bF h3_4) (l_fld (o := 1) rfl (by kernel_rfl) rfl (l_on rfl (bF h3_4) (l_ldo 2 (v := .int .i64 (a'12_ : Nat)) rfl rfl rfl (by kernel_rfl) rfl (l_on rfl (bF h3_4) (l_mv rfl (l_on rfl (bF h3_4) (l_lenP (pR hb) rfl (by kernel_rfl) rfl (l_on rfl (bF h3_4) ?_))))))))))))
   refine l_ne rfl rfl rfl ?_
   exact l_nil (fun w' hw => ⟨(by repeat (first | exact .refl _ _ | refine .upd rfl ?_ | refine .msk rfl ?_)), rfl, hw⟩)
  refine l_mv rfl (l_bor (q := (bad'13_ = true) ∨ (((a'12_ : Nat) : Int) ≠ ((b.length : Nat) : Int))) 5 13 [33, 32, 31, 30, 29] (¬ (({ seq := sq1_, retry := rt2_, lead := ((ld3_ : Nat) : Int), reply := ({ session := s4_, seq := q5_, e := ((op6_ : Nat) : Int), lease := le7_, amount := am8_, until_ := sp9_ } : RepD), most := mo10_, lent := ln11_ } : TldD).ok)) rfl rfl rfl rfl rfl rfl trivial rfl (fun h3_13 => ?_) (fun g3_19 => ?_))
  ·
   refine l_on rfl (gF h3_13) (l_fld (o := 0) rfl (by kernel_rfl) rfl (l_on rfl (gF h3_13) (l_ldo 0 (v := .func (.func 61) #[] #[.pointer (some ⟨cb, 0, none⟩)]) rfl rfl rfl (by kernel_rfl) rfl (l_on rfl (gF h3_13) (l_ldr (cs := [.int .u64 (sq1_ : Nat), .bool rt2_, .int .i64 (ld3_ : Nat), .int .u64 (s4_ : Nat), .int .u64 (q5_ : Nat), .int .i64 (op6_ : Nat), .int .u64 (le7_ : Nat), .int .i64 am8_, .int .i64 sp9_, .int .i64 mo10_, .int .i64 ln11_]) 1 rfl rfl (by kernel_rfl) rfl (l_on rfl (gF h3_13) (l_callv (fst := []) (cap := [.pointer (some ⟨cb, 0, none⟩)]) rfl (by kernel_rfl) rfl rfl (fun w' hw => (tldSound_s ({ seq := sq1_, retry := rt2_, lead := ((ld3_ : Nat) : Int), reply := ({ session := s4_, seq := q5_, e := ((op6_ : Nat) : Int), lease := le7_, amount := am8_, until_ := sp9_ } : RepD), most := mo10_, lent := ln11_ } : TldD) cb w' (hw.rd0 hcb)).mono ?_))))))))
   rintro _ w1 ⟨rfl, hO⟩
   refine (?_ : CL _ _ _ _ _ _ (Own w [] [Res.row b2 103 [.func (.func 61) #[] #[.pointer (some ⟨cb, 0, none⟩)], .func (.func 62) #[] #[.pointer (some ⟨cb, 0, none⟩)], .func (.func 66) #[] #[.pointer (some ⟨cb, 0, none⟩)]], Res.row b4 28 [.int .u64 (sq1_ : Nat), .bool rt2_, .int .i64 (ld3_ : Nat), .int .u64 (s4_ : Nat), .int .u64 (q5_ : Nat), .int .i64 (op6_ : Nat), .int .u64 (le7_ : Nat), .int .i64 am8_, .int .i64 sp9_, .int .i64 mo10_, .int .i64 ln11_], Res.row b10 130 [v, .int .i64 (a'12_ : Nat), .bool bad'13_]])) w1 (hw.frame0 hO)
   refine l_on rfl (gF h3_13) (l_notp (q := ({ seq := sq1_, retry := rt2_, lead := ((ld3_ : Nat) : Int), reply := ({ session := s4_, seq := q5_, e := ((op6_ : Nat) : Int), lease := le7_, amount := am8_, until_ := sp9_ } : RepD), most := mo10_, lent := ln11_ } : TldD).ok) rfl rfl ?_)
   exact l_nil (fun w' hw => ⟨(by repeat (first | exact .refl _ _ | refine .upd rfl ?_ | refine .msk rfl ?_)), rfl, hw⟩)
  refine l_end (c_dec rfl (fun c1 => ?_) (fun c1 => ?_))
  ·
   refine c_reg (l_new (v := .agg #[.int .u64 (0 : Nat), .bool false, .int .i64 0, .int .u64 (0 : Nat), .int .u64 (0 : Nat), .int .i64 0, .int .u64 (0 : Nat), .int .i64 0, .int .i64 0, .int .i64 0, .int .i64 0]) (by kernel_rfl) rfl (fun b7 => l_end (c_reg (l_ldr (cs := [.int .u64 (0 : Nat), .bool false, .int .i64 0, .int .u64 (0 : Nat), .int .u64 (0 : Nat), .int .i64 0, .int .u64 (0 : Nat), .int .i64 0, .int .i64 0, .int .i64 0, .int .i64 0]) 3 rfl rfl (by kernel_rfl) rfl (l_stN (cs := [.int .u64 (sq1_ : Nat), .bool rt2_, .int .i64 (ld3_ : Nat), .int .u64 (s4_ : Nat), .int .u64 (q5_ : Nat), .int .i64 (op6_ : Nat), .int .u64 (le7_ : Nat), .int .i64 am8_, .int .i64 sp9_, .int .i64 mo10_, .int .i64 ln11_]) (vs := [.int .u64 (0 : Nat), .bool false, .int .i64 0, .int .u64 (0 : Nat), .int .u64 (0 : Nat), .int .i64 0, .int .u64 (0 : Nat), .int .i64 0, .int .i64 0, .int .i64 0, .int .i64 0]) 1 rfl rfl rfl (by kernel_rfl) (allc_cons rfl (allc_cons rfl (allc_cons rfl (allc_cons rfl (allc_cons rfl (allc_cons rfl (allc_cons rfl (allc_cons rfl (allc_cons rfl (allc_cons rfl (allc_cons rfl allc_nil))))))))))) (Nat.le_of_ble_eq_true rfl) (l_as rfl (l_end ?_)))))))
   exact c_ret (retc2 (cs := [.int .u64 (0 : Nat), .bool false, .int .i64 0, .int .u64 (0 : Nat), .int .u64 (0 : Nat), .int .i64 0, .int .u64 (0 : Nat), .int .i64 0, .int .i64 0, .int .i64 0, .int .i64 0]) (v := .int .i64 4) rfl rfl rfl (by kernel_rfl) (Own.rowCells (i := 1) rfl) (fun w' hw => ⟨0, false, 0, 0, 0, 0, 0, 0, 0, 0, 0, 4, rfl, .inr ⟨rfl, whole_no hf2_3 (fun h1 h2 h3 => c1.elim (fun h => h.elim (fun h => (by rw [h1] at h; cases h)) (fun h => h (by omega))) (fun h => h h3)), rfl⟩, hw.drop⟩))
  ·
   refine c_skipC (c_reg (l_ldr (cs := [.int .u64 (sq1_ : Nat), .bool rt2_, .int .i64 (ld3_ : Nat), .int .u64 (s4_ : Nat), .int .u64 (q5_ : Nat), .int .i64 (op6_ : Nat), .int .u64 (le7_ : Nat), .int .i64 am8_, .int .i64 sp9_, .int .i64 mo10_, .int .i64 ln11_]) 1 rfl rfl (by kernel_rfl) rfl (l_stN (cs := [.int .u64 (sq1_ : Nat), .bool rt2_, .int .i64 (ld3_ : Nat), .int .u64 (s4_ : Nat), .int .u64 (q5_ : Nat), .int .i64 (op6_ : Nat), .int .u64 (le7_ : Nat), .int .i64 am8_, .int .i64 sp9_, .int .i64 mo10_, .int .i64 ln11_]) (vs := [.int .u64 (sq1_ : Nat), .bool rt2_, .int .i64 (ld3_ : Nat), .int .u64 (s4_ : Nat), .int .u64 (q5_ : Nat), .int .i64 (op6_ : Nat), .int .u64 (le7_ : Nat), .int .i64 am8_, .int .i64 sp9_, .int .i64 mo10_, .int .i64 ln11_]) 1 rfl rfl rfl (by kernel_rfl) (allc_cons rfl (allc_cons rfl (allc_cons rfl (allc_cons rfl (allc_cons rfl (allc_cons rfl (allc_cons rfl (allc_cons rfl (allc_cons rfl (allc_cons rfl (allc_cons rfl allc_nil))))))))))) (Nat.le_of_ble_eq_true rfl) (l_as rfl (l_end ?_)))))
   exact c_ret (retc2 (cs := [.int .u64 (sq1_ : Nat), .bool rt2_, .int .i64 (ld3_ : Nat), .int .u64 (s4_ : Nat), .int .u64 (q5_ : Nat), .int .i64 (op6_ : Nat), .int .u64 (le7_ : Nat), .int .i64 am8_, .int .i64 sp9_, .int .i64 mo10_, .int .i64 ln11_]) (v := .int .i64 0) rfl rfl rfl (by kernel_rfl) (Own.rowCells (i := 1) rfl) (fun w' hw => ⟨sq1_, rt2_, ((ld3_ : Nat) : Int), s4_, q5_, ((op6_ : Nat) : Int), le7_, am8_, sp9_, mo10_, ln11_, 0, rfl, .inl ⟨rfl, whole_yes hf2_3 (by cases h : bad'13_; rfl; exact absurd (.inl (.inl h)) c1) (by have : ¬ (a'12_ : Int) ≠ b.length := fun h => c1 (.inl (.inr h)); omega) (Decidable.not_not.1 fun h => c1 (.inr h))⟩, hw.drop⟩))
theorem toTld_s (v : Value) (b : List UInt8) (w : World) (hl : b.length ≤ 1048576) (hb : Rd w [] (Res.sl v b.length (b.map vb))) : Rets Tryz.prog 27 #[v] w fun u_ w' => ∃ (sq : Nat) (rt : Bool) (ld : Int) (s : Nat) (q : Nat) (op : Int) (le : Nat) (am : Int) (sp : Int) (mo : Int) (ln : Int) (e : Int), u_ = .tuple #[.agg #[.int .u64 (sq : Nat), .bool rt, .int .i64 ld, .int .u64 (s : Nat), .int .u64 (q : Nat), .int .i64 op, .int .u64 (le : Nat), .int .i64 am, .int .i64 sp, .int .i64 mo, .int .i64 ln], .int .i64 e] ∧ ValPost (decTld b) (⟨sq, rt, ld, ⟨s, q, op, le, am, sp⟩, mo, ln⟩ : TldD) tldZ e ∧ Own w [] [] w' := by
  refine fn_enter (args := [v]) Tryz.func27 rfl Tryz.ntmps27 rfl (Own.start w) ?_
  refine c_reg (l_new (v := .agg #[.int .u64 (0 : Nat), .bool false, .int .i64 0, .int .u64 (0 : Nat), .int .u64 (0 : Nat), .int .i64 0, .int .u64 (0 : Nat), .int .i64 0, .int .i64 0, .int .i64 0, .int .i64 0]) (by kernel_rfl) rfl (fun b2 => l_as rfl (l_end (c_reg (l_call (by kernel_rfl) rfl rfl (fun w' hw => (tolds_s w').mono ?_))))))
  rintro _ w1 ⟨cb1_, rfl, hO⟩
  refine (?_ : CL _ _ _ _ _ _ (Own w [] [Res.row b2 28 [.int .u64 (0 : Nat), .bool false, .int .i64 0, .int .u64 (0 : Nat), .int .u64 (0 : Nat), .int .i64 0, .int .u64 (0 : Nat), .int .i64 0, .int .i64 0, .int .i64 0, .int .i64 0], Res.row cb1_ 121 [.func (.func 79) #[] #[], .func (.func 80) #[] #[], .func (.func 81) #[] #[]]])) w1 (hw.frame0 hO)
  refine l_mv rfl (l_call (by kernel_rfl) rfl rfl (fun w' hw => (tldValue_s v b cb1_ w' (by first | assumption | omega | (simp <;> omega) | (constructor <;> (first | omega | (simp only [LenOk]; omega) | (simp <;> omega)))) (hw.rdRes0 1 rfl) (hw.rd0 hb)).mono ?_))
  rintro _ w1 ⟨sq2_, rt3_, ld4_, s5_, q6_, op7_, le8_, am9_, sp10_, mo11_, ln12_, e13_, rfl, hf1_2, hO⟩
  refine (?_ : CL _ _ _ _ _ _ (Own w [] [Res.row b2 28 [.int .u64 (0 : Nat), .bool false, .int .i64 0, .int .u64 (0 : Nat), .int .u64 (0 : Nat), .int .i64 0, .int .u64 (0 : Nat), .int .i64 0, .int .i64 0, .int .i64 0, .int .i64 0], Res.row cb1_ 121 [.func (.func 79) #[] #[], .func (.func 80) #[] #[], .func (.func 81) #[] #[]]])) w1 (hw.frame0 hO)
  refine l_ext (vs := [.agg #[.int .u64 (sq2_ : Nat), .bool rt3_, .int .i64 ld4_, .int .u64 (s5_ : Nat), .int .u64 (q6_ : Nat), .int .i64 op7_, .int .u64 (le8_ : Nat), .int .i64 am9_, .int .i64 sp10_, .int .i64 mo11_, .int .i64 ln12_], .int .i64 e13_]) rfl rfl rfl (l_ext (vs := [.agg #[.int .u64 (sq2_ : Nat), .bool rt3_, .int .i64 ld4_, .int .u64 (s5_ : Nat), .int .u64 (q6_ : Nat), .int .i64 op7_, .int .u64 (le8_ : Nat), .int .i64 am9_, .int .i64 sp10_, .int .i64 mo11_, .int .i64 ln12_], .int .i64 e13_]) rfl rfl rfl (l_stN (cs := [.int .u64 (0 : Nat), .bool false, .int .i64 0, .int .u64 (0 : Nat), .int .u64 (0 : Nat), .int .i64 0, .int .u64 (0 : Nat), .int .i64 0, .int .i64 0, .int .i64 0, .int .i64 0]) (vs := [.int .u64 (sq2_ : Nat), .bool rt3_, .int .i64 ld4_, .int .u64 (s5_ : Nat), .int .u64 (q6_ : Nat), .int .i64 op7_, .int .u64 (le8_ : Nat), .int .i64 am9_, .int .i64 sp10_, .int .i64 mo11_, .int .i64 ln12_]) 0 rfl rfl rfl (by kernel_rfl) (allc_cons rfl (allc_cons rfl (allc_cons rfl (allc_cons rfl (allc_cons rfl (allc_cons rfl (allc_cons rfl (allc_cons rfl (allc_cons rfl (allc_cons rfl (allc_cons rfl allc_nil))))))))))) (Nat.le_of_ble_eq_true rfl) (l_as rfl (l_end ?_))))
  exact c_ret (retc2 (cs := [.int .u64 (sq2_ : Nat), .bool rt3_, .int .i64 ld4_, .int .u64 (s5_ : Nat), .int .u64 (q6_ : Nat), .int .i64 op7_, .int .u64 (le8_ : Nat), .int .i64 am9_, .int .i64 sp10_, .int .i64 mo11_, .int .i64 ln12_]) (v := .int .i64 e13_) rfl rfl rfl (by kernel_rfl) (Own.rowCells (i := 0) rfl) (fun w' hw => ⟨sq2_, rt3_, ld4_, s5_, q6_, op7_, le8_, am9_, sp10_, mo11_, ln12_, e13_, rfl, hf1_2, hw.drop⟩))
theorem rtoTld_s (v : Value) (b : List UInt8) (w : World) (hl : b.length ≤ 1048576) (hb : Rd w [] (Res.sl v b.length (b.map vb))) : Rets Tryz.prog 39 #[v] w fun u_ w' => ∃ (sq : Nat) (rt : Bool) (ld : Int) (s : Nat) (q : Nat) (op : Int) (le : Nat) (am : Int) (sp : Int) (mo : Int) (ln : Int) (f : Bool), u_ = .tuple #[.agg #[.int .u64 (sq : Nat), .bool rt, .int .i64 ld, .int .u64 (s : Nat), .int .u64 (q : Nat), .int .i64 op, .int .u64 (le : Nat), .int .i64 am, .int .i64 sp, .int .i64 mo, .int .i64 ln], .bool f] ∧ RefPost (decTld b) (⟨sq, rt, ld, ⟨s, q, op, le, am, sp⟩, mo, ln⟩ : TldD) f ∧ Own w [] [] w' := by
  refine fn_enter (args := [v]) Tryz.func39 rfl Tryz.ntmps39 rfl (Own.start w) ?_
  refine c_reg (l_new (v := .agg #[.int .u64 (0 : Nat), .bool false, .int .i64 0, .int .u64 (0 : Nat), .int .u64 (0 : Nat), .int .i64 0, .int .u64 (0 : Nat), .int .i64 0, .int .i64 0, .int .i64 0, .int .i64 0]) (by kernel_rfl) rfl (fun b2 => l_as rfl (l_end (c_reg (l_mv rfl (l_bldc (cs := [v, .int .i64 0, .bool false]) (z := [.slice none 0 0, .int .i64 0, .bool false]) (pl := [(0, 1), (1, 1), (2, 1)]) (by kernel_rfl) ⟨(Sl.cell1 (Rd.φ hb)), trivial⟩ (by kernel_rfl) rfl (l_box rfl rfl (fun b8 => l_as rfl (l_end (c_reg (l_bld (cs := [.int .u64 (0 : Nat), .bool false, .int .i64 0, .int .u64 (0 : Nat), .int .u64 (0 : Nat), .int .i64 0, .int .u64 (0 : Nat), .int .i64 0, .int .i64 0, .int .i64 0, .int .i64 0]) (z := [.int .u64 (0 : Nat), .bool false, .int .i64 0, .int .u64 (0 : Nat), .int .u64 (0 : Nat), .int .i64 0, .int .u64 (0 : Nat), .int .i64 0, .int .i64 0, .int .i64 0, .int .i64 0]) (pl := [(0, 1), (1, 1), (2, 1), (3, 6), (9, 1), (10, 1)]) (by kernel_rfl) (by kernel_rfl) rfl (l_new (v := .agg #[.int .u64 (0 : Nat), .bool false, .int .i64 0, .int .u64 (0 : Nat), .int .u64 (0 : Nat), .int .i64 0, .int .u64 (0 : Nat), .int .i64 0, .int .i64 0, .int .i64 0, .int .i64 0]) (by kernel_rfl) rfl (fun b5 => ?_)))))))))))))
  refine l_stN (cs := [.int .u64 (0 : Nat), .bool false, .int .i64 0, .int .u64 (0 : Nat), .int .u64 (0 : Nat), .int .i64 0, .int .u64 (0 : Nat), .int .i64 0, .int .i64 0, .int .i64 0, .int .i64 0]) (vs := [.int .u64 (0 : Nat), .bool false, .int .i64 0, .int .u64 (0 : Nat), .int .u64 (0 : Nat), .int .i64 0, .int .u64 (0 : Nat), .int .i64 0, .int .i64 0, .int .i64 0, .int .i64 0]) 2 rfl rfl rfl (by kernel_rfl) (allc_cons rfl (allc_cons rfl (allc_cons rfl (allc_cons rfl (allc_cons rfl (allc_cons rfl (allc_cons rfl (allc_cons rfl (allc_cons rfl (allc_cons rfl (allc_cons rfl allc_nil))))))))))) (Nat.le_of_ble_eq_true rfl) (l_end (c_reg (l_mv rfl (l_call (by kernel_rfl) rfl rfl (fun w' hw => (rinNum_s b8 v b 0 false w' (by first | assumption | omega | (simp <;> omega) | (constructor <;> (first | omega | (simp only [LenOk]; omega) | (simp <;> omega)))) (by first | assumption | omega | (simp <;> omega) | (constructor <;> (first | omega | (simp only [LenOk]; omega) | (simp <;> omega)))) (hw.give [1] rfl (by decide)) (hw.rdTo hb [1] rfl)).mono ?_)))))
  rintro _ w1 ⟨n1_, a'2_, bad'3_, rfl, hf3_1, hf3_1_1, hO⟩
  have hq1 := hf3_1.le
  refine (?_ : CL _ _ _ _ _ _ (Own w [] [Res.row b2 28 [.int .u64 (0 : Nat), .bool false, .int .i64 0, .int .u64 (0 : Nat), .int .u64 (0 : Nat), .int .i64 0, .int .u64 (0 : Nat), .int .i64 0, .int .i64 0, .int .i64 0, .int .i64 0], Res.row b5 28 [.int .u64 (0 : Nat), .bool false, .int .i64 0, .int .u64 (0 : Nat), .int .u64 (0 : Nat), .int .i64 0, .int .u64 (0 : Nat), .int .i64 0, .int .i64 0, .int .i64 0, .int .i64 0], Res.row b8 114 [v, .int .i64 (a'2_ : Nat), .bool bad'3_]])) w1 (hw.frameL [1] rfl hO)
  refine l_fld (o := 0) rfl (by kernel_rfl) rfl (l_st (cs := [.int .u64 (0 : Nat), .bool false, .int .i64 0, .int .u64 (0 : Nat), .int .u64 (0 : Nat), .int .i64 0, .int .u64 (0 : Nat), .int .i64 0, .int .i64 0, .int .i64 0, .int .i64 0]) 1 rfl rfl rfl (by kernel_rfl) rfl (Nat.le_of_ble_eq_true rfl) (l_end (c_reg (l_mv rfl (l_call (by kernel_rfl) rfl rfl (fun w' hw => (rinInt_s b8 v b a'2_ bad'3_ 1 w' (by first | assumption | omega | (simp <;> omega) | (constructor <;> (first | omega | (simp only [LenOk]; omega) | (simp <;> omega)))) (by first | assumption | omega | (simp <;> omega) | (constructor <;> (first | omega | (simp only [LenOk]; omega) | (simp <;> omega)))) (by first | assumption | omega | (simp <;> omega) | (constructor <;> (first | omega | (simp only [LenOk]; omega) | (simp <;> omega)))) (hw.give [2] rfl (by decide)) (hw.rdTo hb [2] rfl)).mono ?_))))))
  rintro _ w1 ⟨n4_, a'5_, bad'6_, rfl, hf4_1, hf4_1_1, hO⟩
  have hq2 := hf4_1.le
  refine (?_ : CL _ _ _ _ _ _ (Own w [] [Res.row b2 28 [.int .u64 (0 : Nat), .bool false, .int .i64 0, .int .u64 (0 : Nat), .int .u64 (0 : Nat), .int .i64 0, .int .u64 (0 : Nat), .int .i64 0, .int .i64 0, .int .i64 0, .int .i64 0], Res.row b5 28 [.int .u64 (n1_ : Nat), .bool false, .int .i64 0, .int .u64 (0 : Nat), .int .u64 (0 : Nat), .int .i64 0, .int .u64 (0 : Nat), .int .i64 0, .int .i64 0, .int .i64 0, .int .i64 0], Res.row b8 114 [v, .int .i64 (a'5_ : Nat), .bool bad'6_]])) w1 (hw.frameL [2] rfl hO)
  refine l_eq rfl rfl rfl (l_fld (o := 1) rfl (by kernel_rfl) rfl (l_st (cs := [.int .u64 (n1_ : Nat), .bool false, .int .i64 0, .int .u64 (0 : Nat), .int .u64 (0 : Nat), .int .i64 0, .int .u64 (0 : Nat), .int .i64 0, .int .i64 0, .int .i64 0, .int .i64 0]) 1 rfl rfl rfl (by kernel_rfl) rfl (Nat.le_of_ble_eq_true rfl) (l_end (c_reg (l_mv rfl (l_call (by kernel_rfl) rfl rfl (fun w' hw => (rinInt_s b8 v b a'5_ bad'6_ 16 w' (by first | assumption | omega | (simp <;> omega) | (constructor <;> (first | omega | (simp only [LenOk]; omega) | (simp <;> omega)))) (by first | assumption | omega | (simp <;> omega) | (constructor <;> (first | omega | (simp only [LenOk]; omega) | (simp <;> omega)))) (by first | assumption | omega | (simp <;> omega) | (constructor <;> (first | omega | (simp only [LenOk]; omega) | (simp <;> omega)))) (hw.give [2] rfl (by decide)) (hw.rdTo hb [2] rfl)).mono ?_)))))))
  rintro _ w1 ⟨n7_, a'8_, bad'9_, rfl, hf5_1, hf5_1_1, hO⟩
  have hq3 := hf5_1.le
  refine (?_ : CL _ _ _ _ _ _ (Own w [] [Res.row b2 28 [.int .u64 (0 : Nat), .bool false, .int .i64 0, .int .u64 (0 : Nat), .int .u64 (0 : Nat), .int .i64 0, .int .u64 (0 : Nat), .int .i64 0, .int .i64 0, .int .i64 0, .int .i64 0], Res.row b5 28 [.int .u64 (n1_ : Nat), .bool (decide (((n4_ : Nat) : Int) = 1)), .int .i64 0, .int .u64 (0 : Nat), .int .u64 (0 : Nat), .int .i64 0, .int .u64 (0 : Nat), .int .i64 0, .int .i64 0, .int .i64 0, .int .i64 0], Res.row b8 114 [v, .int .i64 (a'8_ : Nat), .bool bad'9_]])) w1 (hw.frameL [2] rfl hO)
  refine l_fld (o := 2) rfl (by kernel_rfl) rfl (l_st (cs := [.int .u64 (n1_ : Nat), .bool (decide (((n4_ : Nat) : Int) = 1)), .int .i64 0, .int .u64 (0 : Nat), .int .u64 (0 : Nat), .int .i64 0, .int .u64 (0 : Nat), .int .i64 0, .int .i64 0, .int .i64 0, .int .i64 0]) 1 rfl rfl rfl (by kernel_rfl) rfl (Nat.le_of_ble_eq_true rfl) (l_end (c_reg (l_mv rfl (l_call (by kernel_rfl) rfl rfl (fun w' hw => (rrplRead_s b8 v b a'8_ bad'9_ w' (by first | assumption | omega | (simp <;> omega) | (constructor <;> (first | omega | (simp only [LenOk]; omega) | (simp <;> omega)))) (by first | assumption | omega | (simp <;> omega) | (constructor <;> (first | omega | (simp only [LenOk]; omega) | (simp <;> omega)))) (hw.give [2] rfl (by decide)) (hw.rdTo hb [2] rfl)).mono ?_))))))
  rintro _ w1 ⟨s10_, q11_, op12_, le13_, am14_, sp15_, a'16_, bad'17_, rfl, hf6_1, hO⟩
  have hq4 := hf6_1.le
  refine (?_ : CL _ _ _ _ _ _ (Own w [] [Res.row b2 28 [.int .u64 (0 : Nat), .bool false, .int .i64 0, .int .u64 (0 : Nat), .int .u64 (0 : Nat), .int .i64 0, .int .u64 (0 : Nat), .int .i64 0, .int .i64 0, .int .i64 0, .int .i64 0], Res.row b5 28 [.int .u64 (n1_ : Nat), .bool (decide (((n4_ : Nat) : Int) = 1)), .int .i64 (n7_ : Nat), .int .u64 (0 : Nat), .int .u64 (0 : Nat), .int .i64 0, .int .u64 (0 : Nat), .int .i64 0, .int .i64 0, .int .i64 0, .int .i64 0], Res.row b8 114 [v, .int .i64 (a'16_ : Nat), .bool bad'17_]])) w1 (hw.frameL [2] rfl hO)
  refine l_fld (o := 3) rfl (by kernel_rfl) rfl (l_stN (cs := [.int .u64 (n1_ : Nat), .bool (decide (((n4_ : Nat) : Int) = 1)), .int .i64 (n7_ : Nat), .int .u64 (0 : Nat), .int .u64 (0 : Nat), .int .i64 0, .int .u64 (0 : Nat), .int .i64 0, .int .i64 0, .int .i64 0, .int .i64 0]) (vs := [.int .u64 (s10_ : Nat), .int .u64 (q11_ : Nat), .int .i64 (op12_ : Nat), .int .u64 (le13_ : Nat), .int .i64 am14_, .int .i64 sp15_]) 1 rfl rfl rfl (by kernel_rfl) (allc_cons rfl (allc_cons rfl (allc_cons rfl (allc_cons rfl (allc_cons rfl (allc_cons rfl allc_nil)))))) (Nat.le_of_ble_eq_true rfl) (l_end (c_reg (l_mv rfl (l_call (by kernel_rfl) rfl rfl (fun w' hw => (rinNum_s b8 v b a'16_ bad'17_ w' (by first | assumption | omega | (simp <;> omega) | (constructor <;> (first | omega | (simp only [LenOk]; omega) | (simp <;> omega)))) (by first | assumption | omega | (simp <;> omega) | (constructor <;> (first | omega | (simp only [LenOk]; omega) | (simp <;> omega)))) (hw.give [2] rfl (by decide)) (hw.rdTo hb [2] rfl)).mono ?_))))))
  rintro _ w1 ⟨n18_, a'19_, bad'20_, rfl, hf7_1, hf7_1_1, hO⟩
  have hq5 := hf7_1.le
  refine (?_ : CL _ _ _ _ _ _ (Own w [] [Res.row b2 28 [.int .u64 (0 : Nat), .bool false, .int .i64 0, .int .u64 (0 : Nat), .int .u64 (0 : Nat), .int .i64 0, .int .u64 (0 : Nat), .int .i64 0, .int .i64 0, .int .i64 0, .int .i64 0], Res.row b5 28 [.int .u64 (n1_ : Nat), .bool (decide (((n4_ : Nat) : Int) = 1)), .int .i64 (n7_ : Nat), .int .u64 (s10_ : Nat), .int .u64 (q11_ : Nat), .int .i64 (op12_ : Nat), .int .u64 (le13_ : Nat), .int .i64 am14_, .int .i64 sp15_, .int .i64 0, .int .i64 0], Res.row b8 114 [v, .int .i64 (a'19_ : Nat), .bool bad'20_]])) w1 (hw.frameL [2] rfl hO)
  refine l_cvt (c := toI n18_) (by kernel_rfl) rfl (wrap_toI hf7_1_1) rfl ?_ (by kernel_rfl)
  refine l_fld (o := 9) rfl (by kernel_rfl) rfl (l_st (cs := [.int .u64 (n1_ : Nat), .bool (decide (((n4_ : Nat) : Int) = 1)), .int .i64 (n7_ : Nat), .int .u64 (s10_ : Nat), .int .u64 (q11_ : Nat), .int .i64 (op12_ : Nat), .int .u64 (le13_ : Nat), .int .i64 am14_, .int .i64 sp15_, .int .i64 0, .int .i64 0]) 1 rfl rfl rfl (by kernel_rfl) rfl (Nat.le_of_ble_eq_true rfl) (l_end (c_reg (l_mv rfl (l_call (by kernel_rfl) rfl rfl (fun w' hw => (rinNum_s b8 v b a'19_ bad'20_ w' (by first | assumption | omega | (simp <;> omega) | (constructor <;> (first | omega | (simp only [LenOk]; omega) | (simp <;> omega)))) (by first | assumption | omega | (simp <;> omega) | (constructor <;> (first | omega | (simp only [LenOk]; omega) | (simp <;> omega)))) (hw.give [2] rfl (by decide)) (hw.rdTo hb [2] rfl)).mono ?_))))))
  rintro _ w1 ⟨n21_, a'22_, bad'23_, rfl, hf8_1, hf8_1_1, hO⟩
  have hR : RdS pTld b 0 false (⟨n1_, decide (((n4_ : Nat) : Int) = 1), ((n7_ : Nat) : Int), ⟨s10_, q11_, ((op12_ : Nat) : Int), le13_, am14_, sp15_⟩, toI n18_, toI n21_⟩ : TldD) a'22_ bad'23_ := hf3_1.bind ((RdS.flag hf4_1).bind (RdS.bind hf5_1.int (hf6_1.bind (hf7_1.bind (hf8_1.bind (RdS.pure _ hf8_1.le))))))
  refine (?_ : CL _ _ _ _ _ _ (Own w [] [Res.row b2 28 [.int .u64 (0 : Nat), .bool false, .int .i64 0, .int .u64 (0 : Nat), .int .u64 (0 : Nat), .int .i64 0, .int .u64 (0 : Nat), .int .i64 0, .int .i64 0, .int .i64 0, .int .i64 0], Res.row b5 28 [.int .u64 (n1_ : Nat), .bool (decide (((n4_ : Nat) : Int) = 1)), .int .i64 (n7_ : Nat), .int .u64 (s10_ : Nat), .int .u64 (q11_ : Nat), .int .i64 (op12_ : Nat), .int .u64 (le13_ : Nat), .int .i64 am14_, .int .i64 sp15_, .int .i64 (toI n18_), .int .i64 0], Res.row b8 114 [v, .int .i64 (a'22_ : Nat), .bool bad'23_]])) w1 (hw.frameL [2] rfl hO)
  refine l_cvt (c := toI n21_) (by kernel_rfl) rfl (wrap_toI hf8_1_1) rfl ?_ (by kernel_rfl)
  refine l_fld (o := 10) rfl (by kernel_rfl) rfl (l_st (cs := [.int .u64 (n1_ : Nat), .bool (decide (((n4_ : Nat) : Int) = 1)), .int .i64 (n7_ : Nat), .int .u64 (s10_ : Nat), .int .u64 (q11_ : Nat), .int .i64 (op12_ : Nat), .int .u64 (le13_ : Nat), .int .i64 am14_, .int .i64 sp15_, .int .i64 (toI n18_), .int .i64 0]) 1 rfl rfl rfl (by kernel_rfl) rfl (Nat.le_of_ble_eq_true rfl) (l_end (c_seq (c_heldo [1] rfl (by decide) (by kernel_rfl) (fun w' hw hS => h_tk 0 rfl (by kernel_rfl) (v_ldr (cs := [.int .u64 (n1_ : Nat), .bool (decide (((n4_ : Nat) : Int) = 1)), .int .i64 (n7_ : Nat), .int .u64 (s10_ : Nat), .int .u64 (q11_ : Nat), .int .i64 (op12_ : Nat), .int .u64 (le13_ : Nat), .int .i64 am14_, .int .i64 sp15_, .int .i64 (toI n18_), .int .i64 (toI n21_)]) 0 rfl rfl (by kernel_rfl)) hS (h_tk 1 rfl (by kernel_rfl) (v_mv) hS (h_one 2 (by kernel_rfl) rfl hw (l_call (by kernel_rfl) rfl rfl (fun w' hw => (whole_s b8 v b a'22_ bad'23_ w' (by first | assumption | omega | (simp <;> omega) | (constructor <;> (first | omega | (simp only [LenOk]; omega) | (simp <;> omega)))) (hw.give [2] rfl (by decide)) (hw.rdTo hb [2] rfl)).mono ?_)))))))))
  rintro _ w1 ⟨rfl, hO⟩
  refine (?_ : CL _ _ _ _ _ _ (Own w [] [Res.row b2 28 [.int .u64 (0 : Nat), .bool false, .int .i64 0, .int .u64 (0 : Nat), .int .u64 (0 : Nat), .int .i64 0, .int .u64 (0 : Nat), .int .i64 0, .int .i64 0, .int .i64 0, .int .i64 0], Res.row b5 28 [.int .u64 (n1_ : Nat), .bool (decide (((n4_ : Nat) : Int) = 1)), .int .i64 (n7_ : Nat), .int .u64 (s10_ : Nat), .int .u64 (q11_ : Nat), .int .i64 (op12_ : Nat), .int .u64 (le13_ : Nat), .int .i64 am14_, .int .i64 sp15_, .int .i64 (toI n18_), .int .i64 (toI n21_)], Res.row b8 114 [v, .int .i64 (a'22_ : Nat), .bool bad'23_]])) w1 (hw.frameL [2] rfl hO)
  refine l_nilH [1] rfl (by decide) (fun w' hw hS => h_tk 3 rfl (by kernel_rfl) (v_mv) hS ?_)
  by_cases g9_3 : bad'23_ = false ∧ a'22_ = b.length
  ·
   refine h_tkg 4 rfl rfl (gT g9_3) (by kernel_rfl) (v_ldr (cs := [.int .u64 (n1_ : Nat), .bool (decide (((n4_ : Nat) : Int) = 1)), .int .i64 (n7_ : Nat), .int .u64 (s10_ : Nat), .int .u64 (q11_ : Nat), .int .i64 (op12_ : Nat), .int .u64 (le13_ : Nat), .int .i64 am14_, .int .i64 sp15_, .int .i64 (toI n18_), .int .i64 (toI n21_)]) 0 rfl rfl (by kernel_rfl)) hS (h_one 5 (by kernel_rfl) rfl hw (l_on rfl (gT g9_3) (l_call (by kernel_rfl) rfl rfl (fun w' hw => (rtldOK_s ({ seq := n1_, retry := decide (((n4_ : Nat) : Int) = 1), lead := ((n7_ : Nat) : Int), reply := ({ session := s10_, seq := q11_, e := ((op12_ : Nat) : Int), lease := le13_, amount := am14_, until_ := sp15_ } : RepD), most := toI n18_, lent := toI n21_ } : TldD) w').mono ?_))))
   rintro _ w1 ⟨rfl, hO⟩
   refine (?_ : CL _ _ _ _ _ _ (Own w [] [Res.row b2 28 [.int .u64 (0 : Nat), .bool false, .int .i64 0, .int .u64 (0 : Nat), .int .u64 (0 : Nat), .int .i64 0, .int .u64 (0 : Nat), .int .i64 0, .int .i64 0, .int .i64 0, .int .i64 0], Res.row b5 28 [.int .u64 (n1_ : Nat), .bool (decide (((n4_ : Nat) : Int) = 1)), .int .i64 (n7_ : Nat), .int .u64 (s10_ : Nat), .int .u64 (q11_ : Nat), .int .i64 (op12_ : Nat), .int .u64 (le13_ : Nat), .int .i64 am14_, .int .i64 sp15_, .int .i64 (toI n18_), .int .i64 (toI n21_)], Res.row b8 114 [v, .int .i64 (a'22_ : Nat), .bool bad'23_]])) w1 (hw.frame0 hO)
   refine l_nilH [1] rfl (by decide) (fun w' hw hS => h_tk 6 rfl (by kernel_rfl) (v_pickT (gT g9_3)) hS (h_one 7 (by kernel_rfl) rfl hw (l_stN (cs := [.int .u64 (0 : Nat), .bool false, .int .i64 0, .int .u64 (0 : Nat), .int .u64 (0 : Nat), .int .i64 0, .int .u64 (0 : Nat), .int .i64 0, .int .i64 0, .int .i64 0, .int .i64 0]) (vs := [.int .u64 (n1_ : Nat), .bool (decide (((n4_ : Nat) : Int) = 1)), .int .i64 (n7_ : Nat), .int .u64 (s10_ : Nat), .int .u64 (q11_ : Nat), .int .i64 (op12_ : Nat), .int .u64 (le13_ : Nat), .int .i64 am14_, .int .i64 sp15_, .int .i64 (toI n18_), .int .i64 (toI n21_)]) 0 rfl rfl rfl (by kernel_rfl) (allc_cons rfl (allc_cons rfl (allc_cons rfl (allc_cons rfl (allc_cons rfl (allc_cons rfl (allc_cons rfl (allc_cons rfl (allc_cons rfl (allc_cons rfl (allc_cons rfl allc_nil))))))))))) (Nat.le_of_ble_eq_true rfl) (l_nilH [1] rfl (by decide) (fun w' hw hS => h_tk 8 rfl (by kernel_rfl) (v_as) hS (h_done (by kernel_rfl) ?_))))))
   refine (?_ : C _ _ _ _ _ _ _ (Own w [] [Res.row b2 28 [.int .u64 (n1_ : Nat), .bool (decide (((n4_ : Nat) : Int) = 1)), .int .i64 (n7_ : Nat), .int .u64 (s10_ : Nat), .int .u64 (q11_ : Nat), .int .i64 (op12_ : Nat), .int .u64 (le13_ : Nat), .int .i64 am14_, .int .i64 sp15_, .int .i64 (toI n18_), .int .i64 (toI n21_)], Res.row b5 28 [.int .u64 (n1_ : Nat), .bool (decide (((n4_ : Nat) : Int) = 1)), .int .i64 (n7_ : Nat), .int .u64 (s10_ : Nat), .int .u64 (q11_ : Nat), .int .i64 (op12_ : Nat), .int .u64 (le13_ : Nat), .int .i64 am14_, .int .i64 sp15_, .int .i64 (toI n18_), .int .i64 (toI n21_)], Res.row b8 114 [v, .int .i64 (a'22_ : Nat), .bool bad'23_]])) _ hw
   exact c_ret (retc2 (cs := [.int .u64 (n1_ : Nat), .bool (decide (((n4_ : Nat) : Int) = 1)), .int .i64 (n7_ : Nat), .int .u64 (s10_ : Nat), .int .u64 (q11_ : Nat), .int .i64 (op12_ : Nat), .int .u64 (le13_ : Nat), .int .i64 am14_, .int .i64 sp15_, .int .i64 (toI n18_), .int .i64 (toI n21_)]) (v := .bool (decide (({ seq := n1_, retry := decide (((n4_ : Nat) : Int) = 1), lead := ((n7_ : Nat) : Int), reply := ({ session := s10_, seq := q11_, e := ((op12_ : Nat) : Int), lease := le13_, amount := am14_, until_ := sp15_ } : RepD), most := toI n18_, lent := toI n21_ } : TldD).ok))) rfl rfl rfl (by kernel_rfl) (Own.rowCells (i := 0) rfl) (fun w' hw => ⟨n1_, (decide (((n4_ : Nat) : Int) = 1)), ((n7_ : Nat) : Int), s10_, q11_, ((op12_ : Nat) : Int), le13_, am14_, sp15_, toI n18_, toI n21_, (decide (({ seq := n1_, retry := decide (((n4_ : Nat) : Int) = 1), lead := ((n7_ : Nat) : Int), reply := ({ session := s10_, seq := q11_, e := ((op12_ : Nat) : Int), lease := le13_, amount := am14_, until_ := sp15_ } : RepD), most := toI n18_, lent := toI n21_ } : TldD).ok)), rfl, RefPost.on hR g9_3 decide_eq_true_iff, hw.drop⟩))
  ·
   refine h_ofg 4 rfl rfl (gF g9_3) rfl (by kernel_rfl) hS (h_ofg 5 rfl rfl (gF g9_3) rfl (by kernel_rfl) hS (h_tk 6 rfl (by kernel_rfl) (v_pickF (gF g9_3)) hS (h_one 7 (by kernel_rfl) rfl hw (l_stN (cs := [.int .u64 (0 : Nat), .bool false, .int .i64 0, .int .u64 (0 : Nat), .int .u64 (0 : Nat), .int .i64 0, .int .u64 (0 : Nat), .int .i64 0, .int .i64 0, .int .i64 0, .int .i64 0]) (vs := [.int .u64 (n1_ : Nat), .bool (decide (((n4_ : Nat) : Int) = 1)), .int .i64 (n7_ : Nat), .int .u64 (s10_ : Nat), .int .u64 (q11_ : Nat), .int .i64 (op12_ : Nat), .int .u64 (le13_ : Nat), .int .i64 am14_, .int .i64 sp15_, .int .i64 (toI n18_), .int .i64 (toI n21_)]) 0 rfl rfl rfl (by kernel_rfl) (allc_cons rfl (allc_cons rfl (allc_cons rfl (allc_cons rfl (allc_cons rfl (allc_cons rfl (allc_cons rfl (allc_cons rfl (allc_cons rfl (allc_cons rfl (allc_cons rfl allc_nil))))))))))) (Nat.le_of_ble_eq_true rfl) (l_nilH [1] rfl (by decide) (fun w' hw hS => h_tk 8 rfl (by kernel_rfl) (v_as) hS (h_done (by kernel_rfl) ?_)))))))
   refine (?_ : C _ _ _ _ _ _ _ (Own w [] [Res.row b2 28 [.int .u64 (n1_ : Nat), .bool (decide (((n4_ : Nat) : Int) = 1)), .int .i64 (n7_ : Nat), .int .u64 (s10_ : Nat), .int .u64 (q11_ : Nat), .int .i64 (op12_ : Nat), .int .u64 (le13_ : Nat), .int .i64 am14_, .int .i64 sp15_, .int .i64 (toI n18_), .int .i64 (toI n21_)], Res.row b5 28 [.int .u64 (n1_ : Nat), .bool (decide (((n4_ : Nat) : Int) = 1)), .int .i64 (n7_ : Nat), .int .u64 (s10_ : Nat), .int .u64 (q11_ : Nat), .int .i64 (op12_ : Nat), .int .u64 (le13_ : Nat), .int .i64 am14_, .int .i64 sp15_, .int .i64 (toI n18_), .int .i64 (toI n21_)], Res.row b8 114 [v, .int .i64 (a'22_ : Nat), .bool bad'23_]])) _ hw
   exact c_ret (retc2 (cs := [.int .u64 (n1_ : Nat), .bool (decide (((n4_ : Nat) : Int) = 1)), .int .i64 (n7_ : Nat), .int .u64 (s10_ : Nat), .int .u64 (q11_ : Nat), .int .i64 (op12_ : Nat), .int .u64 (le13_ : Nat), .int .i64 am14_, .int .i64 sp15_, .int .i64 (toI n18_), .int .i64 (toI n21_)]) (v := .bool false) rfl rfl rfl (by kernel_rfl) (Own.rowCells (i := 0) rfl) (fun w' hw => ⟨n1_, (decide (((n4_ : Nat) : Int) = 1)), ((n7_ : Nat) : Int), s10_, q11_, ((op12_ : Nat) : Int), le13_, am14_, sp15_, toI n18_, toI n21_, false, rfl, RefPost.off hR g9_3, hw.drop⟩))
structure AskD.wf (x : AskD) : Prop where
  seq : x.seq < 18446744073709551616
  cmd : x.cmd.wf
  key : x.key.size ≤ 1048576
def AskD.enc (x : AskD) : List UInt8 := numsB [fl x.look, fl x.lazy] ++ numsB [x.seq] ++ x.cmd.enc ++ dat (strB x.key)
structure TldD.wf (x : TldD) : Prop where
  seq : x.seq < 18446744073709551616
  reply : x.reply.wf
  most : isI x.most
  lent : isI x.lent
def TldD.enc (x : TldD) : List UInt8 := num x.seq ++ (num (fl x.retry) ++ (num (u64 x.lead) ++ (x.reply.enc ++ (num (u64 x.most) ++ num (u64 x.lent)))))
theorem cmd_enc_le {x : CmdD} (h : x.wf) : x.enc.length ≤ 1048700 := by
  have hk := strB_length x.key
  have hk2 := h.key
  have hd := dat_length (strB x.key) (by omega)
  have hn1 := numsB_length (ns := [x.session, x.seq, u64 x.op]) (by have := h.session; have := h.seq; simp [u64_lt, *])
  have hn2 := numsB_length (ns := [u64 x.amount, u64 x.span, x.lease]) (by have := h.lease; simp [u64_lt, *])
  simp only [CmdD.enc, List.length_append, List.length_cons, List.length_nil] at *
  omega
theorem rpl_enc_le {x : RepD} (h : x.wf) : x.enc.length ≤ 100 := by
  have hn := numsB_length (ns := [x.session, x.seq, u64 x.e, x.lease, u64 x.amount, u64 x.until_]) (by have := h.session; have := h.seq; have := h.lease; simp [u64_lt, *])
  simp only [RepD.enc, List.length_cons, List.length_nil] at *
  omega
theorem fl_le (f : Bool) : (num (fl f)).length ≤ 9 := num_le (fl_lt f)
theorem tld_enc_le {x : TldD} (h : x.wf) : x.enc.length ≤ 1000 := by
  have h1 := num_le h.seq
  have h2 := fl_le x.retry
  have h3 := num_le (u64_lt x.lead)
  have h4 := rpl_enc_le h.reply
  have h5 := num_le (u64_lt x.most)
  have h6 := num_le (u64_lt x.lent)
  simp only [TldD.enc, List.length_append]; omega
/-- What is told is read as it was written. -/
theorem dec_tld {x : TldD} (h : x.wf) (ho : x.ok) : decTld x.enc = some x := by
  have hr := h.reply
  have ha := toI_u64 hr.amount
  have hu := toI_u64 hr.until_
  have e1 : x.reply.enc = num x.reply.session ++ (num x.reply.seq ++ (num (u64 x.reply.e) ++ (num x.reply.lease ++ (num (u64 x.reply.amount) ++ (num (u64 x.reply.until_) ++ []))))) := by simp [RepD.enc, numsB]
  have rr : Rt pRpl x.reply x.reply.enc := by
    rw [e1]
    have h5 : Rt (pBind pNum fun u => pPure (⟨x.reply.session, x.reply.seq, x.reply.e, x.reply.lease, toI (u64 x.reply.amount), toI u⟩ : RepD)) x.reply (num (u64 x.reply.until_) ++ []) :=
      (rt_num (u64_lt _)).bind (q := fun u => pPure (⟨x.reply.session, x.reply.seq, x.reply.e, x.reply.lease, toI (u64 x.reply.amount), toI u⟩ : RepD)) (by rw [ha, hu]; exact Rt.pure x.reply)
    exact (rt_num hr.session).bind ((rt_num hr.seq).bind ((rt_int ho.2.1 ho.2.2 (by decide)).bind ((rt_num hr.lease).bind ((rt_num (u64_lt _)).bind h5))))
  have hm := toI_u64 h.most
  have hl := toI_u64 h.lent
  have e2 : x.enc = num x.seq ++ (num (fl x.retry) ++ (num (u64 x.lead) ++ (x.reply.enc ++ (num (u64 x.most) ++ (num (u64 x.lent) ++ []))))) := by simp [TldD.enc]
  have h6 : Rt (pBind pNum fun l => pPure (⟨x.seq, x.retry, x.lead, x.reply, toI (u64 x.most), toI l⟩ : TldD)) x (num (u64 x.lent) ++ []) :=
    (rt_num (u64_lt _)).bind (q := fun l => pPure (⟨x.seq, x.retry, x.lead, x.reply, toI (u64 x.most), toI l⟩ : TldD)) (by rw [hm, hl]; exact Rt.pure x)
  rw [e2]
  exact whole_enc (p := pTld) ((rt_num h.seq).bind ((rt_flag _).bind ((rt_int ho.1.1 ho.1.2 (by decide)).bind (rr.bind ((rt_num (u64_lt _)).bind h6))))) ho
theorem askWrite_s {S : List Nat} (o : Nat) (sl : Value) (bs : List UInt8) (x : AskD) (cb : Nat) (w : World) (hx : x.wf) (hb : bs.length ≤ 1000000) (hin : Own w S [Res.bv o TOut sl bs] w) (hcb : Rd w S (Res.row cb 154 [.func (.func 105) #[] #[], .func (.func 106) #[] #[], .func (.func 107) #[] #[]])) : Rets Tryz.prog 86 #[.pointer (some ⟨o, 0, none⟩), .agg (AskD.cells x).toArray, .pointer (some ⟨cb, 0, none⟩)] w fun u_ w' => ∃ (sl' : Value), u_ = .tuple #[] ∧ Own w S [Res.bv o TOut sl' (bs ++ x.enc)] w' := by
  have hk : x.key.data.toList.length = x.key.size := strB_length x.key
  have hk2 := hx.key
  have hd := dat_length x.key.data.toList (by omega)
  have hcl := cmd_enc_le hx.cmd
  have hn1 := numsB_length (ns := [x.look, x.lazy].map fl) (by simp [fl_lt])
  have hn2 := numsB_length (ns := [x.seq]) (by simpa using hx.seq)
  simp only [List.length_cons, List.length_nil, List.length_map] at hn1 hn2
  refine fn_enter (args := [.pointer (some ⟨o, 0, none⟩), .agg (AskD.cells x).toArray, .pointer (some ⟨cb, 0, none⟩)]) Tryz.func86 rfl Tryz.ntmps86 rfl (show Own w S [Res.bv o TOut sl bs] w from hin) ?_
  refine c_reg (l_box rfl rfl (fun b4 => l_end (c_reg (l_mv rfl (l_fld (o := 0) rfl (by kernel_rfl) rfl (l_ldo 1 (v := .bool x.look) rfl rfl rfl (by kernel_rfl) rfl (l_fld (o := 1) rfl (by kernel_rfl) rfl (l_ldo 1 (v := .bool x.lazy) rfl rfl rfl (by kernel_rfl) rfl (l_bsl (e := 4) (sz := 1) (vs := [.bool x.look, .bool x.lazy]) (by kernel_rfl) rfl rfl (by simp [Value.cells]) (by decide) rfl (fun b10 => l_call (by kernel_rfl) rfl rfl (fun w' hw => (flags_s o _ _ (.slice (some ⟨b10, 0, none⟩) 2 2) [x.look, x.lazy] w' (by simp; omega) (hw.give [0] rfl (by decide)) (hw.rdVec 2 rfl [0] rfl rfl)).mono ?_)))))))))))
  rintro _ w1 ⟨sl'1_, rfl, hO⟩
  refine (?_ : CL _ _ _ _ _ _ (Own w S [Res.row b4 44 (AskD.cells x), Res.vec 4 1 (.slice (some ⟨b10, 0, none⟩) 2 2) [x.look, x.lazy].length ([x.look, x.lazy].flatMap B1), Res.bv o TOut sl'1_ (bs ++ numsB ([x.look, x.lazy].map fl))])) w1 (hw.frameL [0] rfl hO)
  refine l_end (c_reg (l_mv rfl (l_fld (o := 2) rfl (by kernel_rfl) rfl (l_ldo 0 (v := .int .u64 (x.seq : Nat)) rfl rfl rfl (by kernel_rfl) rfl (l_bsl (e := 23) (sz := 1) (vs := [.int .u64 (x.seq : Nat)]) (by kernel_rfl) rfl rfl (by simp [Value.cells]) (by decide) rfl (fun b15 => l_call (by kernel_rfl) rfl rfl (fun w' hw => (nums_s o sl'1_ (bs ++ numsB ([x.look, x.lazy].map fl)) (.slice (some ⟨b15, 0, none⟩) 1 1) [x.seq] w' (by simpa using hx.seq) (by simp only [List.length_append, List.length_cons, List.length_nil]; omega) (hw.give [2] rfl (by decide)) (hw.rdVec 3 rfl [2] rfl rfl)).mono ?_)))))))
  rintro _ w1 ⟨sl'2_, rfl, hO⟩
  refine (?_ : CL _ _ _ _ _ _ (Own w S [Res.row b4 44 (AskD.cells x), Res.vec 4 1 (.slice (some ⟨b10, 0, none⟩) 2 2) [x.look, x.lazy].length ([x.look, x.lazy].flatMap B1), Res.vec 23 1 (.slice (some ⟨b15, 0, none⟩) 1 1) [x.seq].length ([x.seq].flatMap U1), Res.bv o TOut sl'2_ ((bs ++ numsB ([x.look, x.lazy].map fl)) ++ numsB [x.seq])])) w1 (hw.frameL [2] rfl hO)
  refine l_end (c_reg (l_fld (o := 1) rfl (by kernel_rfl) rfl (l_ldq (v := .func (.func 106) #[] #[]) rfl (hcb.φ.cell rfl) (hcb.far _ (by simp [Res.row])) (by kernel_rfl) rfl (l_mv rfl (l_fld (o := 3) rfl (by kernel_rfl) rfl (l_ldoN (cs := (AskD.cells x)) 0 (CmdD.cells x.cmd) rfl rfl (sub_at' 3 rfl) (by kernel_rfl) rfl (l_callv (fst := []) (cap := []) rfl (by kernel_rfl) rfl rfl (fun w' hw => (cmdWrite_s o sl'2_ ((bs ++ numsB ([x.look, x.lazy].map fl)) ++ numsB [x.seq]) x.cmd w' hx.cmd (by simp only [List.length_append]; omega) (hw.give [3] rfl (by decide))).mono ?_))))))))
  rintro _ w1 ⟨sl'3_, rfl, hO⟩
  refine (?_ : CL _ _ _ _ _ _ (Own w S [Res.row b4 44 (AskD.cells x), Res.vec 4 1 (.slice (some ⟨b10, 0, none⟩) 2 2) [x.look, x.lazy].length ([x.look, x.lazy].flatMap B1), Res.vec 23 1 (.slice (some ⟨b15, 0, none⟩) 1 1) [x.seq].length ([x.seq].flatMap U1), Res.bv o TOut sl'3_ (((bs ++ numsB ([x.look, x.lazy].map fl)) ++ numsB [x.seq]) ++ x.cmd.enc)])) w1 (hw.frameL [3] rfl hO)
  refine l_end (c_last (l_mv rfl (l_fld (o := 10) rfl (by kernel_rfl) rfl (l_ldo 0 (v := .string x.key) rfl rfl rfl (by kernel_rfl) rfl (l_s2b (by kernel_rfl) (by kernel_rfl) rfl (by rw [maxLen_eq]; omega) rfl (fun v26 => ?_))))))
  refine l_haveO (fun w' hw => Sl.cell1 (Own.holds hw 4 _ rfl)) (fun hc1_ => ?_)
  refine l_bsl1 (e := 39) (vs := [v26]) (by kernel_rfl) rfl rfl (allc_cons hc1_ allc_nil) (by decide) rfl (fun b27 => l_call (by kernel_rfl) rfl rfl (fun w' hw => (data_s o sl'3_ (((bs ++ numsB ([x.look, x.lazy].map fl)) ++ numsB [x.seq]) ++ x.cmd.enc) (.slice (some ⟨b27, 0, none⟩) 1 1) [(v26, x.key.data.toList)] w' (by simp only [datsB, List.flatMap_cons, List.flatMap_nil, List.append_nil, List.length_append]; omega) (by show 1 ≤ _; omega) (hw.give [3] rfl (by decide)) (hw.rdVec 5 rfl [3] rfl rfl) (all_cons (hw.rdRes 4 rfl [3] rfl rfl) (fun p hp => by cases hp))).mono ?_))
  rintro _ w1 ⟨sl'4_, rfl, hO⟩
  refine (?_ : CL _ _ _ _ _ _ (Own w S [Res.row b4 44 (AskD.cells x), Res.vec 4 1 (.slice (some ⟨b10, 0, none⟩) 2 2) [x.look, x.lazy].length ([x.look, x.lazy].flatMap B1), Res.vec 23 1 (.slice (some ⟨b15, 0, none⟩) 1 1) [x.seq].length ([x.seq].flatMap U1), Res.sl v26 x.key.data.toList.length (x.key.data.toList.map vb), Res.vec 39 1 (.slice (some ⟨b27, 0, none⟩) 1 1) [(v26, x.key.data.toList)].length ([(v26, x.key.data.toList)].flatMap pv), Res.bv o TOut sl'4_ ((((bs ++ numsB ([x.look, x.lazy].map fl)) ++ numsB [x.seq]) ++ x.cmd.enc) ++ datsB [(v26, x.key.data.toList)])])) w1 (hw.frameL [3] rfl hO)
  exact l_nil (ret0 rfl (fun w' hw => ⟨sl'4_, rfl, by have h := hw.one 5 rfl; simpa [AskD.enc, datsB, strB] using h⟩))
theorem askBytes_s (x : AskD) (cb : Nat) (w : World) (hx : x.wf) (hcb : Rd w [] (Res.row cb 154 [.func (.func 105) #[] #[], .func (.func 106) #[] #[], .func (.func 107) #[] #[]])) : Rets Tryz.prog 71 #[.agg #[.func (.func 85) #[] #[.pointer (some ⟨cb, 0, none⟩)], .func (.func 86) #[] #[.pointer (some ⟨cb, 0, none⟩)], .func (.func 88) #[] #[.pointer (some ⟨cb, 0, none⟩)]], .agg (AskD.cells x).toArray] w fun u_ w' => ∃ (r : Value), u_ = .tuple #[r, .int .i64 (errOf x.ok)] ∧ Own w [] [Res.vec 5 1 r (if x.ok then x.enc else []).length ((if x.ok then x.enc else []).map vb)] w' := by
  have hk := hx.key
  have hck := hx.cmd.key
  refine fn_enter (args := [.agg #[.func (.func 85) #[] #[.pointer (some ⟨cb, 0, none⟩)], .func (.func 86) #[] #[.pointer (some ⟨cb, 0, none⟩)], .func (.func 88) #[] #[.pointer (some ⟨cb, 0, none⟩)]], .agg (AskD.cells x).toArray]) Tryz.func71 rfl Tryz.ntmps71 rfl (Own.start w) ?_
  refine c_reg (l_box rfl rfl (fun b2 => l_box rfl rfl (fun b3 => l_as rfl (l_as rfl (l_end (c_seq (c_reg (l_fld (o := 0) rfl (by kernel_rfl) rfl (l_ldo 0 (v := .func (.func 85) #[] #[.pointer (some ⟨cb, 0, none⟩)]) rfl rfl rfl (by kernel_rfl) rfl (l_ldr (cs := (AskD.cells x)) 1 rfl rfl (by kernel_rfl) rfl (l_callv (fst := []) (cap := [.pointer (some ⟨cb, 0, none⟩)]) rfl (by kernel_rfl) rfl rfl (fun w' hw => (askSound_s x cb w' (by first | assumption | omega | (simp <;> omega) | (constructor <;> (first | omega | (simp only [LenOk]; omega) | (simp <;> omega)))) (by first | assumption | omega | (simp <;> omega) | (constructor <;> (first | omega | (simp only [LenOk]; omega) | (simp <;> omega)))) (hw.rd0 hcb)).mono ?_))))))))))))
  rintro _ w1 ⟨rfl, hO⟩
  refine (?_ : CL _ _ _ _ _ _ (Own w [] [Res.row b2 135 [.func (.func 85) #[] #[.pointer (some ⟨cb, 0, none⟩)], .func (.func 86) #[] #[.pointer (some ⟨cb, 0, none⟩)], .func (.func 88) #[] #[.pointer (some ⟨cb, 0, none⟩)]], Res.row b3 44 (AskD.cells x)])) w1 (hw.frame0 hO)
  refine l_notp (q := x.ok) rfl rfl (l_end (c_dec rfl (fun c1 => ?_) (fun c1 => ?_)))
  ·
   refine c_reg (l_as rfl (l_as rfl (l_end ?_)))
   exact c_ret (ret2 (v := .slice none 0 0) (v' := .int .i64 2) rfl rfl rfl (fun w' hw => ⟨.slice none 0 0, (by rw [errOf_F c1]), by rw [if_neg c1]; exact (own_nil hw T8 1).one 2 rfl⟩))
  ·
   refine c_skipC (c_reg (l_bld (cs := [.slice none 0 0]) (z := [.slice none 0 0]) (pl := [(0, 1)]) (by kernel_rfl) (by kernel_rfl) rfl (l_box rfl rfl (fun b13 => l_as rfl (l_end (c_reg (l_fld (o := 1) rfl (by kernel_rfl) rfl (l_ldo 0 (v := .func (.func 86) #[] #[.pointer (some ⟨cb, 0, none⟩)]) rfl rfl rfl (by kernel_rfl) rfl (l_mv rfl (l_ldr (cs := (AskD.cells x)) 1 rfl rfl (by kernel_rfl) rfl ?_))))))))))
   refine l_own [Res.row b2 135 [.func (.func 85) #[] #[.pointer (some ⟨cb, 0, none⟩)], .func (.func 86) #[] #[.pointer (some ⟨cb, 0, none⟩)], .func (.func 88) #[] #[.pointer (some ⟨cb, 0, none⟩)]], Res.row b3 44 (AskD.cells x), Res.bv b13 TOut (.slice none 0 0) ([] : List UInt8)] (fun w' hw => (own_nil hw T8 1).joinBv (i := 2) (j := 3) (by decide) rfl rfl) ?_
   refine l_callv (fst := []) (cap := [.pointer (some ⟨cb, 0, none⟩)]) rfl (by kernel_rfl) rfl rfl (fun w' hw => (askWrite_s b13 (.slice none 0 0) ([] : List UInt8) x cb w' (by first | assumption | omega | (simp <;> omega) | (constructor <;> (first | omega | (simp only [LenOk]; omega) | (simp <;> omega)))) (by first | assumption | omega | (simp <;> omega) | (constructor <;> (first | omega | (simp only [LenOk]; omega) | (simp <;> omega)))) (hw.give [2] rfl (by decide)) (hw.rdTo hcb [2] rfl)).mono ?_)
   rintro _ w1 ⟨sl'1_, rfl, hO⟩
   refine (?_ : CL _ _ _ _ _ _ (Own w [] [Res.row b2 135 [.func (.func 85) #[] #[.pointer (some ⟨cb, 0, none⟩)], .func (.func 86) #[] #[.pointer (some ⟨cb, 0, none⟩)], .func (.func 88) #[] #[.pointer (some ⟨cb, 0, none⟩)]], Res.row b3 44 (AskD.cells x), Res.bv b13 TOut sl'1_ (([] : List UInt8) ++ x.enc)])) w1 (hw.frameL [2] rfl hO)
   refine l_end (c_reg (l_mv rfl (l_nck rfl rfl (l_fld (o := 0) rfl (by kernel_rfl) rfl ?_))))
   refine l_own [Res.row b2 135 [.func (.func 85) #[] #[.pointer (some ⟨cb, 0, none⟩)], .func (.func 86) #[] #[.pointer (some ⟨cb, 0, none⟩)], .func (.func 88) #[] #[.pointer (some ⟨cb, 0, none⟩)]], Res.row b3 44 (AskD.cells x), Res.row b13 TOut [sl'1_], Res.vec 5 1 sl'1_ (([] : List UInt8) ++ x.enc).length ((([] : List UInt8) ++ x.enc).map vb)] (fun w' hw => hw.splitBv (i := 2) (o := b13) (T := TOut) (v := sl'1_) (bs := (([] : List UInt8) ++ x.enc)) rfl) ?_
   refine l_ldo 2 (v := sl'1_) rfl rfl rfl (by kernel_rfl) rfl (l_as rfl (l_as rfl (l_end ?_)))
   exact c_ret (ret2 (v := sl'1_) (v' := .int .i64 0) rfl rfl rfl (fun w' hw => ⟨sl'1_, (by rw [errOf_T (Decidable.not_not.1 c1)]), by rw [if_pos (Decidable.not_not.1 c1)]; exact hw.one 3 rfl⟩))
theorem msgAsk_s (x : AskD) (w : World) (hx : x.wf) : Rets Tryz.prog 46 #[.agg (AskD.cells x).toArray] w fun u_ w' => ∃ (r : Value), u_ = .tuple #[r, .int .i64 (errOf x.ok)] ∧ Own w [] [Res.vec 5 1 r (if x.ok then x.enc else []).length ((if x.ok then x.enc else []).map vb)] w' := by
  refine fn_enter (args := [.agg (AskD.cells x).toArray]) Tryz.func46 rfl Tryz.ntmps46 rfl (Own.start w) ?_
  refine c_reg (l_box rfl rfl (fun b1 => l_as rfl (l_as rfl (l_end (c_seq (c_heldo [0] rfl (by decide) (by kernel_rfl) (fun w' hw hS => h_tk 1 rfl (by kernel_rfl) (v_ldr (cs := (AskD.cells x)) 0 rfl rfl (by kernel_rfl)) hS (h_one 0 (by kernel_rfl) rfl hw (l_call (by kernel_rfl) rfl rfl (fun w' hw => (asks_s w').mono ?_))))))))))
  rintro _ w1 ⟨cb1_, rfl, hO⟩
  refine (?_ : CL _ _ _ _ _ _ (Own w [] [Res.row b1 44 (AskD.cells x), Res.row cb1_ 154 [.func (.func 105) #[] #[], .func (.func 106) #[] #[], .func (.func 107) #[] #[]]])) w1 (hw.frame0 hO)
  refine l_nilH [0] rfl (by decide) (fun w' hw hS => h_one 2 (by kernel_rfl) rfl hw (l_call (by kernel_rfl) rfl rfl (fun w' hw => (askBytes_s x cb1_ w' (by first | assumption | omega | (simp <;> omega) | (constructor <;> (first | omega | (simp only [LenOk]; omega) | (simp <;> omega)))) (hw.rdRes0 1 rfl)).mono ?_)))
  rintro _ w1 ⟨r2_, rfl, hO⟩
  refine (?_ : CL _ _ _ _ _ _ (Own w [] [Res.row b1 44 (AskD.cells x), Res.row cb1_ 154 [.func (.func 105) #[] #[], .func (.func 106) #[] #[], .func (.func 107) #[] #[]], Res.vec 5 1 r2_ (if x.ok then x.enc else []).length ((if x.ok then x.enc else []).map vb)])) w1 (hw.frame0 hO)
  refine l_nilH [0] rfl (by decide) (fun w' hw hS => h_tk 3 rfl (by kernel_rfl) (v_ext (vs := [r2_, .int .i64 (errOf x.ok)]) rfl rfl) hS (h_tk 4 rfl (by kernel_rfl) (v_ext (vs := [r2_, .int .i64 (errOf x.ok)]) rfl rfl) hS (h_tk 5 rfl (by kernel_rfl) (v_as) hS (h_tk 6 rfl (by kernel_rfl) (v_as) hS (h_done (by kernel_rfl) ?_)))))
  refine (?_ : C _ _ _ _ _ _ _ (Own w [] [Res.row b1 44 (AskD.cells x), Res.row cb1_ 154 [.func (.func 105) #[] #[], .func (.func 106) #[] #[], .func (.func 107) #[] #[]], Res.vec 5 1 r2_ (if x.ok then x.enc else []).length ((if x.ok then x.enc else []).map vb)])) _ hw
  exact c_ret (ret2 (v := r2_) (v' := .int .i64 (errOf x.ok)) rfl rfl rfl (fun w' hw => ⟨r2_, rfl, hw.sel [2] rfl (by decide)⟩))
theorem rcommand_s {S : List Nat} (o : Nat) (v : Value) (bs : List UInt8) (x : CmdD) (w : World) (hx : x.wf) (hb : bs.length ≤ 1000000) (hin : Own w S [Res.row o 81 [v], Res.vec 5 1 v bs.length (bs.map vb)] w) : Rets Tryz.prog 53 #[.pointer (some ⟨o, 0, none⟩), .agg (CmdD.cells x).toArray] w fun u_ w' => ∃ (v' : Value), u_ = .tuple #[] ∧ Own w S [Res.row o 81 [v'], Res.vec 5 1 v' (bs ++ x.enc).length ((bs ++ x.enc).map vb)] w' := by
  have hk : x.key.data.toList.length = x.key.size := strB_length x.key
  have hk2 := hx.key
  have hd := dat_length x.key.data.toList (by omega)
  have h1 := num_le hx.session
  have h2 := num_le hx.seq
  have h3 := num_le (u64_lt x.op)
  have h4 := num_le (u64_lt x.amount)
  have h5 := num_le (u64_lt x.span)
  have h6 := num_le hx.lease
  have g1 := hx.session
  have g2 := hx.seq
  have g6 := hx.lease
  have u1 := u64_lt x.op
  have u2 := u64_lt x.amount
  have u3 := u64_lt x.span
  refine fn_enter (args := [.pointer (some ⟨o, 0, none⟩), .agg (CmdD.cells x).toArray]) Tryz.func53 rfl Tryz.ntmps53 rfl (show Own w S [Res.row o 81 [v], Res.vec 5 1 v bs.length (bs.map vb)] w from hin) ?_
  refine c_reg (l_box rfl rfl (fun b3 => l_end (c_reg (l_mv rfl (l_fld (o := 0) rfl (by kernel_rfl) rfl (l_ldo 2 (v := .int .u64 (x.session : Nat)) rfl rfl rfl (by kernel_rfl) rfl (l_call (by kernel_rfl) rfl rfl (fun w' hw => (rNum_s o v bs x.session w' (by first | assumption | omega | (simp <;> omega) | (constructor <;> (first | omega | (simp only [LenOk]; omega) | (simp <;> omega)))) (by first | assumption | omega | (simp <;> omega) | (constructor <;> (first | omega | (simp only [LenOk]; omega) | (simp <;> omega)))) (hw.give [0, 1] rfl (by decide))).mono ?_))))))))
  rintro _ w1 ⟨v'1_, rfl, hO⟩
  refine (?_ : CL _ _ _ _ _ _ (Own w S [Res.row b3 38 (CmdD.cells x), Res.row o 81 [v'1_], Res.vec 5 1 v'1_ (bs ++ num x.session).length ((bs ++ num x.session).map vb)])) w1 (hw.frameL [0, 1] rfl hO)
  refine l_end (c_reg (l_mv rfl (l_fld (o := 1) rfl (by kernel_rfl) rfl (l_ldo 0 (v := .int .u64 (x.seq : Nat)) rfl rfl rfl (by kernel_rfl) rfl (l_call (by kernel_rfl) rfl rfl (fun w' hw => (rNum_s o v'1_ (bs ++ num x.session) x.seq w' (by first | assumption | omega | (simp <;> omega) | (constructor <;> (first | omega | (simp only [LenOk]; omega) | (simp <;> omega)))) (by first | assumption | omega | (simp <;> omega) | (constructor <;> (first | omega | (simp only [LenOk]; omega) | (simp <;> omega)))) (hw.give [1, 2] rfl (by decide))).mono ?_))))))
  rintro _ w1 ⟨v'2_, rfl, hO⟩
  refine (?_ : CL _ _ _ _ _ _ (Own w S [Res.row b3 38 (CmdD.cells x), Res.row o 81 [v'2_], Res.vec 5 1 v'2_ ((bs ++ num x.session) ++ num x.seq).length (((bs ++ num x.session) ++ num x.seq).map vb)])) w1 (hw.frameL [1, 2] rfl hO)
  refine l_end (c_reg (l_mv rfl (l_fld (o := 2) rfl (by kernel_rfl) rfl (l_ldo 0 (v := .int .i64 x.op) rfl rfl rfl (by kernel_rfl) rfl (l_cvt (by kernel_rfl) rfl (wrap_u64 _) rfl ?_ (by kernel_rfl))))))
  refine l_call (by kernel_rfl) rfl rfl (fun w' hw => (rNum_s o v'2_ ((bs ++ num x.session) ++ num x.seq) (u64 x.op) w' (by first | assumption | omega | (simp <;> omega) | (constructor <;> (first | omega | (simp only [LenOk]; omega) | (simp <;> omega)))) (by first | assumption | omega | (simp <;> omega) | (constructor <;> (first | omega | (simp only [LenOk]; omega) | (simp <;> omega)))) (hw.give [1, 2] rfl (by decide))).mono ?_)
  rintro _ w1 ⟨v'3_, rfl, hO⟩
  refine (?_ : CL _ _ _ _ _ _ (Own w S [Res.row b3 38 (CmdD.cells x), Res.row o 81 [v'3_], Res.vec 5 1 v'3_ (((bs ++ num x.session) ++ num x.seq) ++ num (u64 x.op)).length ((((bs ++ num x.session) ++ num x.seq) ++ num (u64 x.op)).map vb)])) w1 (hw.frameL [1, 2] rfl hO)
  refine l_end (c_reg (l_mv rfl (l_fld (o := 3) rfl (by kernel_rfl) rfl (l_ldo 0 (v := .string x.key) rfl rfl rfl (by kernel_rfl) rfl (l_s2b (by kernel_rfl) (by kernel_rfl) rfl (by rw [maxLen_eq]; omega) rfl (fun v20 => l_call (by kernel_rfl) rfl rfl (fun w' hw => (rData_s o v'3_ (((bs ++ num x.session) ++ num x.seq) ++ num (u64 x.op)) v20 x.key.data.toList w' (by first | assumption | omega | (simp <;> omega) | (constructor <;> (first | omega | (simp only [LenOk]; omega) | (simp <;> omega)))) (by first | assumption | omega | (simp <;> omega) | (constructor <;> (first | omega | (simp only [LenOk]; omega) | (simp <;> omega)))) (hw.give [1, 2] rfl (by decide)) (hw.rdRes 3 rfl [1, 2] rfl rfl)).mono ?_)))))))
  rintro _ w1 ⟨v'4_, rfl, hO⟩
  refine (?_ : CL _ _ _ _ _ _ (Own w S [Res.row b3 38 (CmdD.cells x), Res.sl v20 x.key.data.toList.length (x.key.data.toList.map vb), Res.row o 81 [v'4_], Res.vec 5 1 v'4_ ((((bs ++ num x.session) ++ num x.seq) ++ num (u64 x.op)) ++ dat x.key.data.toList).length (((((bs ++ num x.session) ++ num x.seq) ++ num (u64 x.op)) ++ dat x.key.data.toList).map vb)])) w1 (hw.frameL [1, 2] rfl hO)
  refine l_end (c_reg (l_mv rfl (l_fld (o := 4) rfl (by kernel_rfl) rfl (l_ldo 0 (v := .int .i64 x.amount) rfl rfl rfl (by kernel_rfl) rfl (l_cvt (by kernel_rfl) rfl (wrap_u64 _) rfl ?_ (by kernel_rfl))))))
  refine l_call (by kernel_rfl) rfl rfl (fun w' hw => (rNum_s o v'4_ ((((bs ++ num x.session) ++ num x.seq) ++ num (u64 x.op)) ++ dat x.key.data.toList) (u64 x.amount) w' (by first | assumption | omega | (simp <;> omega) | (constructor <;> (first | omega | (simp only [LenOk]; omega) | (simp <;> omega)))) (by first | assumption | omega | (simp <;> omega) | (constructor <;> (first | omega | (simp only [LenOk]; omega) | (simp <;> omega)))) (hw.give [2, 3] rfl (by decide))).mono ?_)
  rintro _ w1 ⟨v'5_, rfl, hO⟩
  refine (?_ : CL _ _ _ _ _ _ (Own w S [Res.row b3 38 (CmdD.cells x), Res.sl v20 x.key.data.toList.length (x.key.data.toList.map vb), Res.row o 81 [v'5_], Res.vec 5 1 v'5_ (((((bs ++ num x.session) ++ num x.seq) ++ num (u64 x.op)) ++ dat x.key.data.toList) ++ num (u64 x.amount)).length ((((((bs ++ num x.session) ++ num x.seq) ++ num (u64 x.op)) ++ dat x.key.data.toList) ++ num (u64 x.amount)).map vb)])) w1 (hw.frameL [2, 3] rfl hO)
  refine l_end (c_reg (l_mv rfl (l_fld (o := 5) rfl (by kernel_rfl) rfl (l_ldo 0 (v := .int .i64 x.span) rfl rfl rfl (by kernel_rfl) rfl (l_cvt (by kernel_rfl) rfl (wrap_u64 _) rfl ?_ (by kernel_rfl))))))
  refine l_call (by kernel_rfl) rfl rfl (fun w' hw => (rNum_s o v'5_ (((((bs ++ num x.session) ++ num x.seq) ++ num (u64 x.op)) ++ dat x.key.data.toList) ++ num (u64 x.amount)) (u64 x.span) w' (by first | assumption | omega | (simp <;> omega) | (constructor <;> (first | omega | (simp only [LenOk]; omega) | (simp <;> omega)))) (by first | assumption | omega | (simp <;> omega) | (constructor <;> (first | omega | (simp only [LenOk]; omega) | (simp <;> omega)))) (hw.give [2, 3] rfl (by decide))).mono ?_)
  rintro _ w1 ⟨v'6_, rfl, hO⟩
  refine (?_ : CL _ _ _ _ _ _ (Own w S [Res.row b3 38 (CmdD.cells x), Res.sl v20 x.key.data.toList.length (x.key.data.toList.map vb), Res.row o 81 [v'6_], Res.vec 5 1 v'6_ ((((((bs ++ num x.session) ++ num x.seq) ++ num (u64 x.op)) ++ dat x.key.data.toList) ++ num (u64 x.amount)) ++ num (u64 x.span)).length (((((((bs ++ num x.session) ++ num x.seq) ++ num (u64 x.op)) ++ dat x.key.data.toList) ++ num (u64 x.amount)) ++ num (u64 x.span)).map vb)])) w1 (hw.frameL [2, 3] rfl hO)
  refine l_end (c_last (l_mv rfl (l_fld (o := 6) rfl (by kernel_rfl) rfl (l_ldo 0 (v := .int .u64 (x.lease : Nat)) rfl rfl rfl (by kernel_rfl) rfl (l_call (by kernel_rfl) rfl rfl (fun w' hw => (rNum_s o v'6_ ((((((bs ++ num x.session) ++ num x.seq) ++ num (u64 x.op)) ++ dat x.key.data.toList) ++ num (u64 x.amount)) ++ num (u64 x.span)) x.lease w' (by first | assumption | omega | (simp <;> omega) | (constructor <;> (first | omega | (simp only [LenOk]; omega) | (simp <;> omega)))) (by first | assumption | omega | (simp <;> omega) | (constructor <;> (first | omega | (simp only [LenOk]; omega) | (simp <;> omega)))) (hw.give [2, 3] rfl (by decide))).mono ?_))))))
  rintro _ w1 ⟨v'7_, rfl, hO⟩
  refine (?_ : CL _ _ _ _ _ _ (Own w S [Res.row b3 38 (CmdD.cells x), Res.sl v20 x.key.data.toList.length (x.key.data.toList.map vb), Res.row o 81 [v'7_], Res.vec 5 1 v'7_ (((((((bs ++ num x.session) ++ num x.seq) ++ num (u64 x.op)) ++ dat x.key.data.toList) ++ num (u64 x.amount)) ++ num (u64 x.span)) ++ num x.lease).length ((((((((bs ++ num x.session) ++ num x.seq) ++ num (u64 x.op)) ++ dat x.key.data.toList) ++ num (u64 x.amount)) ++ num (u64 x.span)) ++ num x.lease).map vb)])) w1 (hw.frameL [2, 3] rfl hO)
  exact l_nil (ret0 rfl (fun w' hw => ⟨v'7_, rfl, by have h := hw.sel [2, 3] rfl (by decide); simpa [CmdD.enc, numsB, strB] using h⟩))
theorem rreply_s {S : List Nat} (o : Nat) (v : Value) (bs : List UInt8) (x : RepD) (w : World) (hx : x.wf) (hb : bs.length ≤ 1000000) (hin : Own w S [Res.row o 81 [v], Res.vec 5 1 v bs.length (bs.map vb)] w) : Rets Tryz.prog 33 #[.pointer (some ⟨o, 0, none⟩), .agg (RepD.cells x).toArray] w fun u_ w' => ∃ (v' : Value), u_ = .tuple #[] ∧ Own w S [Res.row o 81 [v'], Res.vec 5 1 v' (bs ++ x.enc).length ((bs ++ x.enc).map vb)] w' := by
  have h1 := num_le hx.session
  have h2 := num_le hx.seq
  have h3 := num_le (u64_lt x.e)
  have h4 := num_le hx.lease
  have h5 := num_le (u64_lt x.amount)
  have h6 := num_le (u64_lt x.until_)
  have g1 := hx.session
  have g2 := hx.seq
  have g6 := hx.lease
  have u1 := u64_lt x.e
  have u2 := u64_lt x.amount
  have u3 := u64_lt x.until_
  refine fn_enter (args := [.pointer (some ⟨o, 0, none⟩), .agg (RepD.cells x).toArray]) Tryz.func33 rfl Tryz.ntmps33 rfl (show Own w S [Res.row o 81 [v], Res.vec 5 1 v bs.length (bs.map vb)] w from hin) ?_
  refine c_reg (l_box rfl rfl (fun b3 => l_end (c_reg (l_mv rfl (l_fld (o := 0) rfl (by kernel_rfl) rfl (l_ldo 2 (v := .int .u64 (x.session : Nat)) rfl rfl rfl (by kernel_rfl) rfl (l_call (by kernel_rfl) rfl rfl (fun w' hw => (rNum_s o v bs x.session w' (by first | assumption | omega | (simp <;> omega) | (constructor <;> (first | omega | (simp only [LenOk]; omega) | (simp <;> omega)))) (by first | assumption | omega | (simp <;> omega) | (constructor <;> (first | omega | (simp only [LenOk]; omega) | (simp <;> omega)))) (hw.give [0, 1] rfl (by decide))).mono ?_))))))))
  rintro _ w1 ⟨v'1_, rfl, hO⟩
  refine (?_ : CL _ _ _ _ _ _ (Own w S [Res.row b3 26 (RepD.cells x), Res.row o 81 [v'1_], Res.vec 5 1 v'1_ (bs ++ num x.session).length ((bs ++ num x.session).map vb)])) w1 (hw.frameL [0, 1] rfl hO)
  refine l_end (c_reg (l_mv rfl (l_fld (o := 1) rfl (by kernel_rfl) rfl (l_ldo 0 (v := .int .u64 (x.seq : Nat)) rfl rfl rfl (by kernel_rfl) rfl (l_call (by kernel_rfl) rfl rfl (fun w' hw => (rNum_s o v'1_ (bs ++ num x.session) x.seq w' (by first | assumption | omega | (simp <;> omega) | (constructor <;> (first | omega | (simp only [LenOk]; omega) | (simp <;> omega)))) (by first | assumption | omega | (simp <;> omega) | (constructor <;> (first | omega | (simp only [LenOk]; omega) | (simp <;> omega)))) (hw.give [1, 2] rfl (by decide))).mono ?_))))))
  rintro _ w1 ⟨v'2_, rfl, hO⟩
  refine (?_ : CL _ _ _ _ _ _ (Own w S [Res.row b3 26 (RepD.cells x), Res.row o 81 [v'2_], Res.vec 5 1 v'2_ ((bs ++ num x.session) ++ num x.seq).length (((bs ++ num x.session) ++ num x.seq).map vb)])) w1 (hw.frameL [1, 2] rfl hO)
  refine l_end (c_reg (l_mv rfl (l_fld (o := 2) rfl (by kernel_rfl) rfl (l_ldo 0 (v := .int .i64 x.e) rfl rfl rfl (by kernel_rfl) rfl (l_cvt (by kernel_rfl) rfl (wrap_u64 _) rfl ?_ (by kernel_rfl))))))
  refine l_call (by kernel_rfl) rfl rfl (fun w' hw => (rNum_s o v'2_ ((bs ++ num x.session) ++ num x.seq) (u64 x.e) w' (by first | assumption | omega | (simp <;> omega) | (constructor <;> (first | omega | (simp only [LenOk]; omega) | (simp <;> omega)))) (by first | assumption | omega | (simp <;> omega) | (constructor <;> (first | omega | (simp only [LenOk]; omega) | (simp <;> omega)))) (hw.give [1, 2] rfl (by decide))).mono ?_)
  rintro _ w1 ⟨v'3_, rfl, hO⟩
  refine (?_ : CL _ _ _ _ _ _ (Own w S [Res.row b3 26 (RepD.cells x), Res.row o 81 [v'3_], Res.vec 5 1 v'3_ (((bs ++ num x.session) ++ num x.seq) ++ num (u64 x.e)).length ((((bs ++ num x.session) ++ num x.seq) ++ num (u64 x.e)).map vb)])) w1 (hw.frameL [1, 2] rfl hO)
  refine l_end (c_reg (l_mv rfl (l_fld (o := 3) rfl (by kernel_rfl) rfl (l_ldo 0 (v := .int .u64 (x.lease : Nat)) rfl rfl rfl (by kernel_rfl) rfl (l_call (by kernel_rfl) rfl rfl (fun w' hw => (rNum_s o v'3_ (((bs ++ num x.session) ++ num x.seq) ++ num (u64 x.e)) x.lease w' (by first | assumption | omega | (simp <;> omega) | (constructor <;> (first | omega | (simp only [LenOk]; omega) | (simp <;> omega)))) (by first | assumption | omega | (simp <;> omega) | (constructor <;> (first | omega | (simp only [LenOk]; omega) | (simp <;> omega)))) (hw.give [1, 2] rfl (by decide))).mono ?_))))))
  rintro _ w1 ⟨v'4_, rfl, hO⟩
  refine (?_ : CL _ _ _ _ _ _ (Own w S [Res.row b3 26 (RepD.cells x), Res.row o 81 [v'4_], Res.vec 5 1 v'4_ ((((bs ++ num x.session) ++ num x.seq) ++ num (u64 x.e)) ++ num x.lease).length (((((bs ++ num x.session) ++ num x.seq) ++ num (u64 x.e)) ++ num x.lease).map vb)])) w1 (hw.frameL [1, 2] rfl hO)
  refine l_end (c_reg (l_mv rfl (l_fld (o := 4) rfl (by kernel_rfl) rfl (l_ldo 0 (v := .int .i64 x.amount) rfl rfl rfl (by kernel_rfl) rfl (l_cvt (by kernel_rfl) rfl (wrap_u64 _) rfl ?_ (by kernel_rfl))))))
  refine l_call (by kernel_rfl) rfl rfl (fun w' hw => (rNum_s o v'4_ ((((bs ++ num x.session) ++ num x.seq) ++ num (u64 x.e)) ++ num x.lease) (u64 x.amount) w' (by first | assumption | omega | (simp <;> omega) | (constructor <;> (first | omega | (simp only [LenOk]; omega) | (simp <;> omega)))) (by first | assumption | omega | (simp <;> omega) | (constructor <;> (first | omega | (simp only [LenOk]; omega) | (simp <;> omega)))) (hw.give [1, 2] rfl (by decide))).mono ?_)
  rintro _ w1 ⟨v'5_, rfl, hO⟩
  refine (?_ : CL _ _ _ _ _ _ (Own w S [Res.row b3 26 (RepD.cells x), Res.row o 81 [v'5_], Res.vec 5 1 v'5_ (((((bs ++ num x.session) ++ num x.seq) ++ num (u64 x.e)) ++ num x.lease) ++ num (u64 x.amount)).length ((((((bs ++ num x.session) ++ num x.seq) ++ num (u64 x.e)) ++ num x.lease) ++ num (u64 x.amount)).map vb)])) w1 (hw.frameL [1, 2] rfl hO)
  refine l_end (c_last (l_mv rfl (l_fld (o := 5) rfl (by kernel_rfl) rfl (l_ldo 0 (v := .int .i64 x.until_) rfl rfl rfl (by kernel_rfl) rfl (l_cvt (by kernel_rfl) rfl (wrap_u64 _) rfl ?_ (by kernel_rfl))))))
  refine l_call (by kernel_rfl) rfl rfl (fun w' hw => (rNum_s o v'5_ (((((bs ++ num x.session) ++ num x.seq) ++ num (u64 x.e)) ++ num x.lease) ++ num (u64 x.amount)) (u64 x.until_) w' (by first | assumption | omega | (simp <;> omega) | (constructor <;> (first | omega | (simp only [LenOk]; omega) | (simp <;> omega)))) (by first | assumption | omega | (simp <;> omega) | (constructor <;> (first | omega | (simp only [LenOk]; omega) | (simp <;> omega)))) (hw.give [1, 2] rfl (by decide))).mono ?_)
  rintro _ w1 ⟨v'6_, rfl, hO⟩
  refine (?_ : CL _ _ _ _ _ _ (Own w S [Res.row b3 26 (RepD.cells x), Res.row o 81 [v'6_], Res.vec 5 1 v'6_ ((((((bs ++ num x.session) ++ num x.seq) ++ num (u64 x.e)) ++ num x.lease) ++ num (u64 x.amount)) ++ num (u64 x.until_)).length (((((((bs ++ num x.session) ++ num x.seq) ++ num (u64 x.e)) ++ num x.lease) ++ num (u64 x.amount)) ++ num (u64 x.until_)).map vb)])) w1 (hw.frameL [1, 2] rfl hO)
  exact l_nil (ret0 rfl (fun w' hw => ⟨v'6_, rfl, by have h := hw.sel [1, 2] rfl (by decide); simpa [RepD.enc, numsB] using h⟩))
theorem rask_s (x : AskD) (w : World) (hx : x.wf) : Rets Tryz.prog 38 #[.agg (AskD.cells x).toArray] w fun u_ w' => ∃ (r : Value), u_ = r ∧ Own w [] [Res.vec 5 1 r x.enc.length (x.enc.map vb)] w' := by
  have hk : x.key.data.toList.length = x.key.size := strB_length x.key
  have hk2 := hx.key
  have hd := dat_length x.key.data.toList (by omega)
  have hcl := cmd_enc_le hx.cmd
  have h1 := fl_le x.look
  have h2 := fl_le x.lazy
  have h3 := num_le hx.seq
  have g1 := hx.seq
  have g2 := hx.cmd
  refine fn_enter (args := [.agg (AskD.cells x).toArray]) Tryz.func38 rfl Tryz.ntmps38 rfl (Own.start w) ?_
  refine c_reg (l_box rfl rfl (fun b1 => l_as rfl (l_end (c_reg (l_bld (cs := [.slice none 0 0]) (z := [.slice none 0 0]) (pl := [(0, 1)]) (by kernel_rfl) (by kernel_rfl) rfl (l_box rfl rfl (fun b5 => l_as rfl (l_end (c_reg (l_mv rfl (l_fld (o := 0) rfl (by kernel_rfl) rfl (l_ldo 0 (v := .bool x.look) rfl rfl rfl (by kernel_rfl) rfl ?_))))))))))))
  refine l_addnil 5 1 ?_
  refine l_call (by kernel_rfl) rfl rfl (fun w' hw => (rFlag_s b5 (.slice none 0 0) [] x.look w' (by first | assumption | omega | (simp <;> omega) | (constructor <;> (first | omega | (simp only [LenOk]; omega) | (simp <;> omega)))) (hw.give [1, 2] rfl (by decide))).mono ?_)
  rintro _ w1 ⟨v'1_, rfl, hO⟩
  refine (?_ : CL _ _ _ _ _ _ (Own w [] [Res.row b1 44 (AskD.cells x), Res.row b5 81 [v'1_], Res.vec 5 1 v'1_ ([] ++ num (fl x.look)).length (([] ++ num (fl x.look)).map vb)])) w1 (hw.frameL [1, 2] rfl hO)
  refine l_end (c_reg (l_mv rfl (l_fld (o := 1) rfl (by kernel_rfl) rfl (l_ldo 0 (v := .bool x.lazy) rfl rfl rfl (by kernel_rfl) rfl (l_call (by kernel_rfl) rfl rfl (fun w' hw => (rFlag_s b5 v'1_ ([] ++ num (fl x.look)) x.lazy w' (by first | assumption | omega | (simp <;> omega) | (constructor <;> (first | omega | (simp only [LenOk]; omega) | (simp <;> omega)))) (hw.give [1, 2] rfl (by decide))).mono ?_))))))
  rintro _ w1 ⟨v'2_, rfl, hO⟩
  refine (?_ : CL _ _ _ _ _ _ (Own w [] [Res.row b1 44 (AskD.cells x), Res.row b5 81 [v'2_], Res.vec 5 1 v'2_ (([] ++ num (fl x.look)) ++ num (fl x.lazy)).length ((([] ++ num (fl x.look)) ++ num (fl x.lazy)).map vb)])) w1 (hw.frameL [1, 2] rfl hO)
  refine l_end (c_reg (l_mv rfl (l_fld (o := 2) rfl (by kernel_rfl) rfl (l_ldo 0 (v := .int .u64 (x.seq : Nat)) rfl rfl rfl (by kernel_rfl) rfl (l_call (by kernel_rfl) rfl rfl (fun w' hw => (rNum_s b5 v'2_ (([] ++ num (fl x.look)) ++ num (fl x.lazy)) x.seq w' (by first | assumption | omega | (simp <;> omega) | (constructor <;> (first | omega | (simp only [LenOk]; omega) | (simp <;> omega)))) (by first | assumption | omega | (simp <;> omega) | (constructor <;> (first | omega | (simp only [LenOk]; omega) | (simp <;> omega)))) (hw.give [1, 2] rfl (by decide))).mono ?_))))))
  rintro _ w1 ⟨v'3_, rfl, hO⟩
  refine (?_ : CL _ _ _ _ _ _ (Own w [] [Res.row b1 44 (AskD.cells x), Res.row b5 81 [v'3_], Res.vec 5 1 v'3_ ((([] ++ num (fl x.look)) ++ num (fl x.lazy)) ++ num x.seq).length (((([] ++ num (fl x.look)) ++ num (fl x.lazy)) ++ num x.seq).map vb)])) w1 (hw.frameL [1, 2] rfl hO)
  refine l_end (c_reg (l_mv rfl (l_fld (o := 3) rfl (by kernel_rfl) rfl (l_ldoN (cs := (AskD.cells x)) 0 (CmdD.cells x.cmd) rfl rfl (sub_at' 3 rfl) (by kernel_rfl) rfl (l_call (by kernel_rfl) rfl rfl (fun w' hw => (rcommand_s b5 v'3_ ((([] ++ num (fl x.look)) ++ num (fl x.lazy)) ++ num x.seq) x.cmd w' (by first | assumption | omega | (simp <;> omega) | (constructor <;> (first | omega | (simp only [LenOk]; omega) | (simp <;> omega)))) (by first | assumption | omega | (simp <;> omega) | (constructor <;> (first | omega | (simp only [LenOk]; omega) | (simp <;> omega)))) (hw.give [1, 2] rfl (by decide))).mono ?_))))))
  rintro _ w1 ⟨v'4_, rfl, hO⟩
  refine (?_ : CL _ _ _ _ _ _ (Own w [] [Res.row b1 44 (AskD.cells x), Res.row b5 81 [v'4_], Res.vec 5 1 v'4_ (((([] ++ num (fl x.look)) ++ num (fl x.lazy)) ++ num x.seq) ++ x.cmd.enc).length ((((([] ++ num (fl x.look)) ++ num (fl x.lazy)) ++ num x.seq) ++ x.cmd.enc).map vb)])) w1 (hw.frameL [1, 2] rfl hO)
  refine l_end (c_reg (l_mv rfl (l_fld (o := 10) rfl (by kernel_rfl) rfl (l_ldo 0 (v := .string x.key) rfl rfl rfl (by kernel_rfl) rfl (l_s2b (by kernel_rfl) (by kernel_rfl) rfl (by rw [maxLen_eq]; omega) rfl (fun v25 => l_call (by kernel_rfl) rfl rfl (fun w' hw => (rData_s b5 v'4_ (((([] ++ num (fl x.look)) ++ num (fl x.lazy)) ++ num x.seq) ++ x.cmd.enc) v25 x.key.data.toList w' (by first | assumption | omega | (simp <;> omega) | (constructor <;> (first | omega | (simp only [LenOk]; omega) | (simp <;> omega)))) (by first | assumption | omega | (simp <;> omega) | (constructor <;> (first | omega | (simp only [LenOk]; omega) | (simp <;> omega)))) (hw.give [1, 2] rfl (by decide)) (hw.rdRes 3 rfl [1, 2] rfl rfl)).mono ?_)))))))
  rintro _ w1 ⟨v'5_, rfl, hO⟩
  refine (?_ : CL _ _ _ _ _ _ (Own w [] [Res.row b1 44 (AskD.cells x), Res.sl v25 x.key.data.toList.length (x.key.data.toList.map vb), Res.row b5 81 [v'5_], Res.vec 5 1 v'5_ ((((([] ++ num (fl x.look)) ++ num (fl x.lazy)) ++ num x.seq) ++ x.cmd.enc) ++ dat x.key.data.toList).length (((((([] ++ num (fl x.look)) ++ num (fl x.lazy)) ++ num x.seq) ++ x.cmd.enc) ++ dat x.key.data.toList).map vb)])) w1 (hw.frameL [1, 2] rfl hO)
  refine l_end (c_reg (l_mv rfl (l_nck rfl rfl (l_fld (o := 0) rfl (by kernel_rfl) rfl (l_ldo 2 (v := v'5_) rfl rfl rfl (by kernel_rfl) rfl (l_as rfl (l_end ?_)))))))
  exact c_ret (ret1 (v := v'5_) rfl rfl (fun w' hw => ⟨v'5_, rfl, by simpa [AskD.enc, numsB, strB] using hw.one 3 rfl⟩))
theorem rtold_s (x : TldD) (w : World) (hx : x.wf) : Rets Tryz.prog 14 #[.agg (TldD.cells x).toArray] w fun u_ w' => ∃ (r : Value), u_ = r ∧ Own w [] [Res.vec 5 1 r x.enc.length (x.enc.map vb)] w' := by
  have h1 := num_le hx.seq
  have h2 := fl_le x.retry
  have h3 := num_le (u64_lt x.lead)
  have h4 := rpl_enc_le hx.reply
  have h5 := num_le (u64_lt x.most)
  have h6 := num_le (u64_lt x.lent)
  have g1 := hx.seq
  have g2 := hx.reply
  have u1 := u64_lt x.lead
  have u2 := u64_lt x.most
  have u3 := u64_lt x.lent
  refine fn_enter (args := [.agg (TldD.cells x).toArray]) Tryz.func14 rfl Tryz.ntmps14 rfl (Own.start w) ?_
  refine c_reg (l_box rfl rfl (fun b1 => l_as rfl (l_end (c_reg (l_bld (cs := [.slice none 0 0]) (z := [.slice none 0 0]) (pl := [(0, 1)]) (by kernel_rfl) (by kernel_rfl) rfl (l_box rfl rfl (fun b5 => l_as rfl (l_end (c_reg (l_mv rfl (l_fld (o := 0) rfl (by kernel_rfl) rfl (l_ldo 0 (v := .int .u64 (x.seq : Nat)) rfl rfl rfl (by kernel_rfl) rfl ?_))))))))))))
  refine l_addnil 5 1 ?_
  refine l_call (by kernel_rfl) rfl rfl (fun w' hw => (rNum_s b5 (.slice none 0 0) [] x.seq w' (by first | assumption | omega | (simp <;> omega) | (constructor <;> (first | omega | (simp only [LenOk]; omega) | (simp <;> omega)))) (by first | assumption | omega | (simp <;> omega) | (constructor <;> (first | omega | (simp only [LenOk]; omega) | (simp <;> omega)))) (hw.give [1, 2] rfl (by decide))).mono ?_)
  rintro _ w1 ⟨v'1_, rfl, hO⟩
  refine (?_ : CL _ _ _ _ _ _ (Own w [] [Res.row b1 28 (TldD.cells x), Res.row b5 81 [v'1_], Res.vec 5 1 v'1_ ([] ++ num x.seq).length (([] ++ num x.seq).map vb)])) w1 (hw.frameL [1, 2] rfl hO)
  refine l_end (c_reg (l_mv rfl (l_fld (o := 1) rfl (by kernel_rfl) rfl (l_ldo 0 (v := .bool x.retry) rfl rfl rfl (by kernel_rfl) rfl (l_call (by kernel_rfl) rfl rfl (fun w' hw => (rFlag_s b5 v'1_ ([] ++ num x.seq) x.retry w' (by first | assumption | omega | (simp <;> omega) | (constructor <;> (first | omega | (simp only [LenOk]; omega) | (simp <;> omega)))) (hw.give [1, 2] rfl (by decide))).mono ?_))))))
  rintro _ w1 ⟨v'2_, rfl, hO⟩
  refine (?_ : CL _ _ _ _ _ _ (Own w [] [Res.row b1 28 (TldD.cells x), Res.row b5 81 [v'2_], Res.vec 5 1 v'2_ (([] ++ num x.seq) ++ num (fl x.retry)).length ((([] ++ num x.seq) ++ num (fl x.retry)).map vb)])) w1 (hw.frameL [1, 2] rfl hO)
  refine l_end (c_reg (l_mv rfl (l_fld (o := 2) rfl (by kernel_rfl) rfl (l_ldo 0 (v := .int .i64 x.lead) rfl rfl rfl (by kernel_rfl) rfl (l_cvt (by kernel_rfl) rfl (wrap_u64 _) rfl ?_ (by kernel_rfl))))))
  refine l_call (by kernel_rfl) rfl rfl (fun w' hw => (rNum_s b5 v'2_ (([] ++ num x.seq) ++ num (fl x.retry)) (u64 x.lead) w' (by first | assumption | omega | (simp <;> omega) | (constructor <;> (first | omega | (simp only [LenOk]; omega) | (simp <;> omega)))) (by first | assumption | omega | (simp <;> omega) | (constructor <;> (first | omega | (simp only [LenOk]; omega) | (simp <;> omega)))) (hw.give [1, 2] rfl (by decide))).mono ?_)
  rintro _ w1 ⟨v'3_, rfl, hO⟩
  refine (?_ : CL _ _ _ _ _ _ (Own w [] [Res.row b1 28 (TldD.cells x), Res.row b5 81 [v'3_], Res.vec 5 1 v'3_ ((([] ++ num x.seq) ++ num (fl x.retry)) ++ num (u64 x.lead)).length (((([] ++ num x.seq) ++ num (fl x.retry)) ++ num (u64 x.lead)).map vb)])) w1 (hw.frameL [1, 2] rfl hO)
  refine l_end (c_reg (l_mv rfl (l_fld (o := 3) rfl (by kernel_rfl) rfl (l_ldoN (cs := (TldD.cells x)) 0 (RepD.cells x.reply) rfl rfl (sub_at' 3 rfl) (by kernel_rfl) rfl (l_call (by kernel_rfl) rfl rfl (fun w' hw => (rreply_s b5 v'3_ ((([] ++ num x.seq) ++ num (fl x.retry)) ++ num (u64 x.lead)) x.reply w' (by first | assumption | omega | (simp <;> omega) | (constructor <;> (first | omega | (simp only [LenOk]; omega) | (simp <;> omega)))) (by first | assumption | omega | (simp <;> omega) | (constructor <;> (first | omega | (simp only [LenOk]; omega) | (simp <;> omega)))) (hw.give [1, 2] rfl (by decide))).mono ?_))))))
  rintro _ w1 ⟨v'4_, rfl, hO⟩
  refine (?_ : CL _ _ _ _ _ _ (Own w [] [Res.row b1 28 (TldD.cells x), Res.row b5 81 [v'4_], Res.vec 5 1 v'4_ (((([] ++ num x.seq) ++ num (fl x.retry)) ++ num (u64 x.lead)) ++ x.reply.enc).length ((((([] ++ num x.seq) ++ num (fl x.retry)) ++ num (u64 x.lead)) ++ x.reply.enc).map vb)])) w1 (hw.frameL [1, 2] rfl hO)
  refine l_end (c_reg (l_mv rfl (l_fld (o := 9) rfl (by kernel_rfl) rfl (l_ldo 0 (v := .int .i64 x.most) rfl rfl rfl (by kernel_rfl) rfl (l_cvt (by kernel_rfl) rfl (wrap_u64 _) rfl ?_ (by kernel_rfl))))))
  refine l_call (by kernel_rfl) rfl rfl (fun w' hw => (rNum_s b5 v'4_ (((([] ++ num x.seq) ++ num (fl x.retry)) ++ num (u64 x.lead)) ++ x.reply.enc) (u64 x.most) w' (by first | assumption | omega | (simp <;> omega) | (constructor <;> (first | omega | (simp only [LenOk]; omega) | (simp <;> omega)))) (by first | assumption | omega | (simp <;> omega) | (constructor <;> (first | omega | (simp only [LenOk]; omega) | (simp <;> omega)))) (hw.give [1, 2] rfl (by decide))).mono ?_)
  rintro _ w1 ⟨v'5_, rfl, hO⟩
  refine (?_ : CL _ _ _ _ _ _ (Own w [] [Res.row b1 28 (TldD.cells x), Res.row b5 81 [v'5_], Res.vec 5 1 v'5_ ((((([] ++ num x.seq) ++ num (fl x.retry)) ++ num (u64 x.lead)) ++ x.reply.enc) ++ num (u64 x.most)).length (((((([] ++ num x.seq) ++ num (fl x.retry)) ++ num (u64 x.lead)) ++ x.reply.enc) ++ num (u64 x.most)).map vb)])) w1 (hw.frameL [1, 2] rfl hO)
  refine l_end (c_reg (l_mv rfl (l_fld (o := 10) rfl (by kernel_rfl) rfl (l_ldo 0 (v := .int .i64 x.lent) rfl rfl rfl (by kernel_rfl) rfl (l_cvt (by kernel_rfl) rfl (wrap_u64 _) rfl ?_ (by kernel_rfl))))))
  refine l_call (by kernel_rfl) rfl rfl (fun w' hw => (rNum_s b5 v'5_ ((((([] ++ num x.seq) ++ num (fl x.retry)) ++ num (u64 x.lead)) ++ x.reply.enc) ++ num (u64 x.most)) (u64 x.lent) w' (by first | assumption | omega | (simp <;> omega) | (constructor <;> (first | omega | (simp only [LenOk]; omega) | (simp <;> omega)))) (by first | assumption | omega | (simp <;> omega) | (constructor <;> (first | omega | (simp only [LenOk]; omega) | (simp <;> omega)))) (hw.give [1, 2] rfl (by decide))).mono ?_)
  rintro _ w1 ⟨v'6_, rfl, hO⟩
  refine (?_ : CL _ _ _ _ _ _ (Own w [] [Res.row b1 28 (TldD.cells x), Res.row b5 81 [v'6_], Res.vec 5 1 v'6_ (((((([] ++ num x.seq) ++ num (fl x.retry)) ++ num (u64 x.lead)) ++ x.reply.enc) ++ num (u64 x.most)) ++ num (u64 x.lent)).length ((((((([] ++ num x.seq) ++ num (fl x.retry)) ++ num (u64 x.lead)) ++ x.reply.enc) ++ num (u64 x.most)) ++ num (u64 x.lent)).map vb)])) w1 (hw.frameL [1, 2] rfl hO)
  refine l_end (c_reg (l_mv rfl (l_nck rfl rfl (l_fld (o := 0) rfl (by kernel_rfl) rfl (l_ldo 1 (v := v'6_) rfl rfl rfl (by kernel_rfl) rfl (l_as rfl (l_end ?_)))))))
  exact c_ret (ret1 (v := v'6_) rfl rfl (fun w' hw => ⟨v'6_, rfl, by simpa [TldD.enc] using hw.one 2 rfl⟩))
end Go.Proofs.YtgcmbdgimepnmaaGreat
