/-
  EDGES: plain. What an edge asks, is told, and trusts. No program in sight.
-/
import Derived.Test.YtgcmbdgimepnmaaGreatEdC
import Derived.Test.YtgcmbdgimepnmaaGreatQuotaP
set_option linter.unusedVariables false
set_option maxRecDepth 10000
namespace Go.Proofs.YtgcmbdgimepnmaaGreat
open Go Go.Sc Go.Proofs

/-- Five results, of which the second is a struct in a cell. -/
theorem ret5c {P : Program} {n : Nat} {fn : Func} {R : Value → World → Prop} {A : World → Prop} {f : Nat → Value} {t0 t1 t2 t3 t4 : Tmp} {T : TypeId} {b : Nat} {cs : List Value} {v0 v2 v3 v4 : Value} (hr : fn.results = #[.tmp t0, .cell t1 T, .tmp t2, .tmp t3, .tmp t4]) (h0 : f t0 = v0) (h1 : f t1 = .pointer (some ⟨b, 0, none⟩)) (h2 : f t2 = v2) (h3 : f t3 = v3) (h4 : f t4 = v4)
    (ht : aggN P T = some cs.length) (hc : ∀ w, A w → ∀ i u, cs[i]? = some u → w.cell? ⟨b, 0 + i, none⟩ = some u) (h : ∀ w, A w → R (.tuple #[v0, .agg cs.toArray, v2, v3, v4]) w) : ∀ w, A w → RetK P fn n R f w :=
  fun w hw => ⟨_, fun a ha => by
    have := run_loadVarN (P := P) ht (hc w hw)
    simp [results, hr, ha.get, h0, h1, h2, h3, h4, asAddr, this], h w hw⟩
structure TruD where
  key : ByteArray
  amount : Int
  till : Int
  deriving DecidableEq, Inhabited
def TruD.cells (x : TruD) : List Value := [.string x.key, .int .i64 x.amount, .int .i64 x.till]
def TruD.zero : TruD := ⟨⟨#[]⟩, 0, 0⟩
def truV (l : TruD) : Value := .agg l.cells.toArray
theorem drop_nth {α : Type} [Inhabited α] {l : List α} {k : Nat} (h : k < l.length) : l.drop k = nth l k :: l.drop (k + 1) := by
  rw [List.drop_eq_getElem_cons h]; congr 1
  have := nth_some h; rw [List.getElem?_eq_getElem h] at this; injection this
/-! ### sums -/
def addF (a b : Int) : Int × Int :=
  if (0 < b ∧ IntKind.i64.wrap (9223372036854775807 - b) < a) ∨ (b < 0 ∧ a < IntKind.i64.wrap (-9223372036854775808 - b)) then (0, 3) else (IntKind.i64.wrap (a + b), 0)
def totF : Int → List Int → Int × Int
  | n, [] => (n, 0)
  | n, x :: l => if (addF n x).2 ≠ 0 then (0, (addF n x).2) else totF (addF n x).1 l
theorem totF_err {n : Int} {l : List Int} {k : Nat} (h : k < l.length) (e : (addF n (nth l k)).2 ≠ 0) : totF n (l.drop k) = (0, (addF n (nth l k)).2) := by
  rw [drop_nth h, totF, if_pos e]
theorem totF_go {n : Int} {l : List Int} {k : Nat} (h : k < l.length) (e : ¬ (addF n (nth l k)).2 ≠ 0) : totF n (l.drop k) = totF (addF n (nth l k)).1 (l.drop (k + 1)) := by
  rw [drop_nth h, totF, if_neg e]
theorem totF_end {n : Int} {l : List Int} {k : Nat} (h : l.length ≤ k) : totF n (l.drop k) = (n, 0) := by
  rw [List.drop_of_length_le h]; rfl
/-! ### spans -/
def badT (t rho : Int) : Prop := ((t < 0 ∨ 1099511627776 < t) ∨ rho < 0) ∨ 500000 < rho
instance (t rho : Int) : Decidable (badT t rho) := inferInstanceAs (Decidable (((_ ∨ _) ∨ _) ∨ _))
def shr (t rho : Int) : Int := t * 1000000 / (1000000 + rho)
def shrP (t rho : Int) : Int × Int := if badT t rho then (0, 1) else (shr t rho, 0)
def guardP (t rho : Int) : Int × Int := if (shrP t rho).2 ≠ 0 then (0, (shrP t rho).2) else shrP (shrP t rho).1 rho
theorem shr_le {t rho : Int} (h : ¬ badT t rho) : 0 ≤ shr t rho ∧ shr t rho ≤ t := by
  unfold badT at h
  unfold shr
  refine ⟨Int.ediv_nonneg (by omega) (by omega), ?_⟩
  refine Int.ediv_le_of_le_mul (by omega) ?_
  rw [Int.mul_add]
  have : 0 ≤ t * rho := Int.mul_nonneg (by omega) (by omega)
  omega
theorem guard_ok {t rho : Int} (h : ¬ badT t rho) : guardP t rho = (shr (shr t rho) rho, 0) ∧ ¬ badT (shr t rho) rho ∧ 0 ≤ shr (shr t rho) rho ∧ shr (shr t rho) rho ≤ t := by
  have h1 := shr_le h
  have h2 : ¬ badT (shr t rho) rho := by unfold badT at h ⊢; omega
  have h3 := shr_le h2
  refine ⟨?_, h2, h3.1, by omega⟩
  unfold guardP shrP
  rw [if_neg h]
  simp only [if_neg h2]; rfl
theorem shr_quo {t rho : Int} (h : ¬ badT t rho) : IntKind.i64.wrap ((t * 1000000).tdiv (1000000 + rho)) = shr t rho := by
  have h1 := shr_le h
  have h2 : (t * 1000000).tdiv (1000000 + rho) = shr t rho := by unfold badT at h; rw [Int.tdiv_eq_ediv_of_nonneg (by omega)]; rfl
  unfold badT at h
  rw [h2]; exact wi64 (by omega)
structure RatioOk (t b : Int) : Prop where
  q0 : 0 ≤ t / b
  q1 : t / b ≤ 1099511627776
  qa0 : 0 ≤ t / b * 1000000
  qa1 : t / b * 1000000 ≤ 1099511627776
  r0 : 0 ≤ t % b
  r1 : t % b < b
  ra0 : 0 ≤ t % b * 1000000
  ra1 : t % b * 1000000 ≤ 1500000000000
  rb0 : 0 ≤ t % b * 1000000 / b
  rb1 : t % b * 1000000 / b ≤ 1500000000000
  sum : t / b * 1000000 + t % b * 1000000 / b = t * 1000000 / b
  tq : IntKind.i64.wrap (t.tdiv b) = t / b
  tr : t.tmod b = t % b
  tb : IntKind.i64.wrap ((t % b * 1000000).tdiv b) = t % b * 1000000 / b
theorem ratio_ok {t b : Int} (ht : 0 ≤ t ∧ t ≤ 1099511627776) (hb : 1000000 ≤ b ∧ b ≤ 1500000) : RatioOk t b := by
  have q0 : 0 ≤ t / b := Int.ediv_nonneg ht.1 (by omega)
  have r0 : 0 ≤ t % b := Int.emod_nonneg _ (by omega)
  have r1 : t % b < b := Int.emod_lt_of_pos _ (by omega)
  have e : b * (t / b) + t % b = t := Int.mul_ediv_add_emod t b
  have qb : t / b * 1000000 ≤ b * (t / b) := by rw [Int.mul_comm]; exact Int.mul_le_mul_of_nonneg_right hb.1 q0
  have rb0 : 0 ≤ t % b * 1000000 / b := Int.ediv_nonneg (by omega) (by omega)
  have rb1 : t % b * 1000000 / b ≤ t % b * 1000000 := Int.ediv_le_self _ (by omega)
  have sum : t / b * 1000000 + t % b * 1000000 / b = t * 1000000 / b := by
    have : t * 1000000 = t % b * 1000000 + t / b * 1000000 * b := by
      have : t * 1000000 = (b * (t / b) + t % b) * 1000000 := by rw [e]
      rw [this, Int.add_mul, Int.add_comm]; congr 1
      rw [Int.mul_comm b, Int.mul_assoc, Int.mul_comm b, ← Int.mul_assoc]
    rw [this, Int.add_mul_ediv_right _ _ (by omega), Int.add_comm]
  refine ⟨q0, by omega, by omega, by omega, r0, r1, by omega, by omega, rb0, by omega, sum, ?_, ?_, ?_⟩
  · rw [Int.tdiv_eq_ediv_of_nonneg ht.1]; exact wi64 (by omega)
  · exact Int.tmod_eq_emod_of_nonneg ht.1
  · rw [Int.tdiv_eq_ediv_of_nonneg (by omega)]; exact wi64 (by omega)
/-! ### asks -/
def begA (x : AskD) (id : Int) (seq : Nat) : AskD :=
  if x.look = true then { x with seq := seq } else { x with seq := seq, cmd := { x.cmd with session := u64 id, seq := seq } }
theorem begA_wf {x : AskD} {id : Int} {seq : Nat} (h : x.wf) (hs : seq < 18446744073709551616) : (begA x id seq).wf := by
  unfold begA; split
  · exact ⟨hs, h.cmd, h.key⟩
  · exact ⟨hs, ⟨u64_lt _, hs, h.cmd.key, h.cmd.amount, h.cmd.span, h.cmd.lease⟩, h.key⟩
theorem begA_seq {x : AskD} {id : Int} {seq : Nat} : (begA x id seq).seq = seq := by unfold begA; split <;> rfl
theorem begA_op {x : AskD} {id : Int} {seq : Nat} : (begA x id seq).cmd.op = x.cmd.op ∧ (begA x id seq).cmd.span = x.cmd.span := by unfold begA; split <;> exact ⟨rfl, rfl⟩
def cmdOf (op : Int) (key : ByteArray) (am sp : Int) (le : Nat) : CmdD := ⟨0, 0, op, key, am, sp, le⟩
def callAsk (op : Int) (key : ByteArray) (am sp : Int) (le : Nat) : AskD := ⟨false, false, 0, cmdOf op key am sp le, ⟨#[]⟩⟩
def lookAsk (key : ByteArray) (lazy : Bool) : AskD := ⟨true, lazy, 0, cmdZ, key⟩
theorem callAsk_wf {op : Int} {key : ByteArray} {am sp : Int} {le : Nat} (hk : key.size ≤ 1048576) (h1 : isI am) (h2 : isI sp) (h3 : le < 18446744073709551616) : (callAsk op key am sp le).wf :=
  ⟨by show (0 : Nat) < _; omega, ⟨by show (0 : Nat) < _; omega, by show (0 : Nat) < _; omega, hk, h1, h2, h3⟩, by show (0 : Nat) ≤ _; omega⟩
theorem cmdZ_wf : cmdZ.wf := ⟨by decide, by decide, by decide, by unfold isI; decide, by unfold isI; decide, by decide⟩
theorem lookAsk_wf {key : ByteArray} {lazy : Bool} (hk : key.size ≤ 1048576) : (lookAsk key lazy).wf := ⟨by show (0 : Nat) < _; omega, cmdZ_wf, hk⟩
theorem askZ_wf : askZ.wf := ⟨by decide, cmdZ_wf, by decide⟩
def callBad (op : Int) (key : ByteArray) (am sp : Int) : Prop :=
  (((op < 1 ∨ 5 < op) ∨ 64 < ((key.size : Nat) : Int)) ∨ ((op = 2 ∨ op = 3) ∧ (sp < 1 ∨ 1099511627776 < sp))) ∨ (op = 2 ∧ am < 1)
/-- What a call comes to. -/
structure CallY (op : Int) (key : ByteArray) (am sp : Int) (le : Nat) (t id : Int) (seq : Nat) (now : Int) (kl : List (Nat × TruD)) (kn : List (Nat × Bool)) (to nx e : Int) (a' : AskD) (since' : Int) (waits' : Bool) (seq' : Nat) (now' : Int) (kl' : List (Nat × TruD)) (kn' : List (Nat × Bool)) : Prop where
  good : ¬ callBad op key am sp
  e : e = 0
  to : to = nx
  a : a' = begA (callAsk op key am sp le) id (seq + 1)
  since : since' = max now t
  waits : waits' = true
  seq : seq' = seq + 1
  now : now' = max now t
  kl : kl' = if op = 4 then delA le kl else kl
  kn : kn' = if op = 4 then putA le true kn else kn
def CallK (a : AskD) (since : Int) (waits : Bool) (op : Int) (key : ByteArray) (am sp : Int) (le : Nat) (t id : Int) (seq : Nat) (now : Int) (kl : List (Nat × TruD)) (kn : List (Nat × Bool)) (to nx e : Int) (a' : AskD) (since' : Int) (waits' : Bool) (seq' : Nat) (now' : Int) (kl' : List (Nat × TruD)) (kn' : List (Nat × Bool)) : Prop :=
  (((waits = true ∧ e = 15) ∨ (waits = false ∧ callBad op key am sp ∧ e = 1)) ∧ a' = a ∧ since' = since ∧ waits' = waits ∧ seq' = seq ∧ now' = now ∧ kl' = kl ∧ kn' = kn)
  ∨ (waits = false ∧ CallY op key am sp le t id seq now kl kn to nx e a' since' waits' seq' now' kl' kn')
def LookK (a : AskD) (since : Int) (waits : Bool) (key : ByteArray) (lazy : Bool) (t id : Int) (seq : Nat) (now : Int) (e : Int) (a' : AskD) (since' : Int) (waits' : Bool) (seq' : Nat) (now' : Int) : Prop :=
  (((waits = true ∧ e = 15) ∨ (waits = false ∧ 64 < key.size ∧ e = 1)) ∧ a' = a ∧ since' = since ∧ waits' = waits ∧ seq' = seq ∧ now' = now)
  ∨ (waits = false ∧ key.size ≤ 64 ∧ e = 0 ∧ a' = begA (lookAsk key lazy) id (seq + 1) ∧ since' = max now t ∧ waits' = true ∧ seq' = seq + 1 ∧ now' = max now t)
theorem begA_no {x : AskD} {id : Int} {seq : Nat} (h : (!x.look) = true) : begA x id seq = { x with seq := seq, cmd := { x.cmd with session := u64 id, seq := seq } } := if_neg (by cases q : x.look <;> simp_all)
theorem begA_yes' {x : AskD} {id : Int} {seq : Nat} (h : (!x.look) = false) : begA x id seq = { x with seq := seq } := if_pos (by cases q : x.look <;> simp_all)
theorem begA_wfn {x : AskD} {id : Int} {seq : Nat} (c : (!x.look) = true) (h : x.wf) (hs : seq < 18446744073709551616) : ({ x with seq := seq, cmd := { x.cmd with session := u64 id, seq := seq } } : AskD).wf := by rw [← begA_no c]; exact begA_wf h hs
theorem begA_wfy {x : AskD} {seq : Nat} (c : (!x.look) = false) (h : x.wf) (hs : seq < 18446744073709551616) : ({ x with seq := seq } : AskD).wf := by rw [← begA_yes' (id := 0) c]; exact begA_wf h hs
theorem ValPost.bad {α : Type} {d : Option α} {x z : α} {e : Int} (h : ValPost d x z e) (he : e ≠ 0) : d = none := by
  rcases h with h | h
  · exact absurd h.1 he
  · exact h.2.1
theorem ValPost.good {α : Type} {d : Option α} {x z : α} {e : Int} (h : ValPost d x z e) (he : ¬ e ≠ 0) : d = some x := by
  rcases h with h | h
  · exact h.2
  · exact absurd (by rw [h.1]; decide) he
theorem old_or {w : Bool} {n m : Nat} (h : (!w) = true ∨ ((n : Nat) : Int) ≠ ((m : Nat) : Int)) : w = false ∨ n ≠ m := by
  rcases h with h | h
  · exact .inl (by cases w <;> simp_all)
  · exact .inr (by omega)
theorem new_of {w : Bool} {n m : Nat} (h : ¬ ((!w) = true ∨ ((n : Nat) : Int) ≠ ((m : Nat) : Int))) : w = true ∧ n = m :=
  ⟨by cases w <;> simp_all, Decidable.by_contra fun q => h (.inr (by omega))⟩
theorem look_of {b : Bool} {p : Prop} (h : (!b) = true ∧ p) : b = false ∧ p := ⟨by cases b <;> simp_all, h.2⟩
theorem look_to {b : Bool} {p : Prop} (h : b = false ∧ p) : (!b) = true ∧ p := ⟨by rw [h.1]; rfl, h.2⟩
/-! ### what is learnt -/
def tillOf (a : AskD) (since rho : Int) : Int := IntKind.i64.wrap (since + (guardP a.cmd.span rho).1)
def learnK (a : AskD) (since rho : Int) (r : RepD) (kl : List (Nat × TruD)) (kn : List (Nat × Bool)) : List (Nat × TruD) :=
  if a.cmd.op = 2 then (if r.amount = a.cmd.amount ∧ (getA r.lease kn).getD false = false then putA r.lease ⟨a.cmd.key, r.amount, tillOf a since rho⟩ kl else kl)
  else if a.cmd.op = 3 then (if (getA a.cmd.lease kl).isSome = true then putA a.cmd.lease ⟨((getA a.cmd.lease kl).getD TruD.zero).key, ((getA a.cmd.lease kl).getD TruD.zero).amount, max ((getA a.cmd.lease kl).getD TruD.zero).till (tillOf a since rho)⟩ kl else kl)
  else kl
section
variable {a : AskD} {since rho : Int} {r : RepD} {kl : List (Nat × TruD)} {kn : List (Nat × Bool)}
theorem learn1 (h1 : a.cmd.op = 2) (h2 : r.amount = a.cmd.amount ∧ (!((getA r.lease kn).getD false)) = true) : putA r.lease ⟨a.cmd.key, r.amount, tillOf a since rho⟩ kl = learnK a since rho r kl kn := by
  unfold learnK; rw [if_pos h1, if_pos ⟨h2.1, by have := h2.2; cases q : (getA r.lease kn).getD false <;> simp_all⟩]
theorem learn2 (h1 : a.cmd.op = 2) (h2 : ¬ (r.amount = a.cmd.amount ∧ (!((getA r.lease kn).getD false)) = true)) : kl = learnK a since rho r kl kn := by
  unfold learnK; rw [if_pos h1, if_neg fun q => h2 ⟨q.1, by rw [q.2]; rfl⟩]
theorem learn3 (h1 : ¬ a.cmd.op = 2) (h2 : a.cmd.op = 3) (h3 : (getA a.cmd.lease kl).isSome = true) : putA a.cmd.lease ⟨((getA a.cmd.lease kl).getD TruD.zero).key, ((getA a.cmd.lease kl).getD TruD.zero).amount, max ((getA a.cmd.lease kl).getD TruD.zero).till (tillOf a since rho)⟩ kl = learnK a since rho r kl kn := by
  unfold learnK; rw [if_neg h1, if_pos h2, if_pos h3]
theorem learn4 (h1 : ¬ a.cmd.op = 2) (h2 : a.cmd.op = 3) (h3 : (getA a.cmd.lease kl).isSome = false) : kl = learnK a since rho r kl kn := by
  unfold learnK; rw [if_neg h1, if_pos h2, if_neg (by rw [h3]; decide)]
theorem learn5 (h1 : ¬ a.cmd.op = 2) (h2 : ¬ a.cmd.op = 3) : kl = learnK a since rho r kl kn := by
  unfold learnK; rw [if_neg h1, if_neg h2]
end
theorem putA_len {κ α : Type} [DecidableEq κ] (k : κ) (v : α) : ∀ kl : List (κ × α), (putA k v kl).length ≤ kl.length + 1
  | [] => by simp [putA]
  | (x, u) :: r => by
    unfold putA; split
    · simp
    · have := putA_len k v r; simp only [List.length_cons]; omega
theorem delA_len {κ α : Type} [DecidableEq κ] (k : κ) : ∀ kl : List (κ × α), (delA k kl).length ≤ kl.length
  | [] => by simp [delA]
  | (x, u) :: r => by
    unfold delA; split
    · simp
    · have := delA_len k r; simp only [List.length_cons]; omega
theorem learnK_len (a : AskD) (since rho : Int) (r : RepD) (kl : List (Nat × TruD)) (kn : List (Nat × Bool)) : (learnK a since rho r kl kn).length ≤ kl.length + 1 := by
  unfold learnK
  repeat' split
  all_goals first | exact putA_len _ _ _ | omega
/-- What is taken of bytes. -/
structure TakeY (y : TldD) (a : AskD) (since rho t now : Int) (kl : List (Nat × TruD)) (kn : List (Nat × Bool)) (done : Bool) (x : TldD) (bs : List UInt8) (waits' : Bool) (now' : Int) (kl' : List (Nat × TruD)) : Prop where
  done : done = true
  x : x = y
  bs : bs = []
  waits : waits' = false
  now : now' = max now t
  kl : kl' = if a.look = false ∧ y.reply.e = 0 then learnK a since rho y.reply kl kn else kl
def TakeK (d : List UInt8) (a : AskD) (since rho : Int) (waits : Bool) (t now : Int) (kl : List (Nat × TruD)) (kn : List (Nat × Bool)) (done : Bool) (x : TldD) (bs : List UInt8) (e : Int) (waits' : Bool) (now' : Int) (kl' : List (Nat × TruD)) : Prop :=
  (decTld d = none ∧ e = 4 ∧ waits' = waits ∧ now' = now ∧ kl' = kl)
  ∨ ∃ y, decTld d = some y ∧
    (((waits = false ∨ y.seq ≠ a.seq) ∧ e = 13 ∧ waits' = waits ∧ now' = now ∧ kl' = kl)
    ∨ (waits = true ∧ y.seq = a.seq ∧ y.retry = true ∧ e = 0 ∧ waits' = true ∧ kl' = kl)
    ∨ (waits = true ∧ y.seq = a.seq ∧ y.retry = false ∧ e = 0 ∧ TakeY y a since rho t now kl kn done x bs waits' now' kl'))
theorem TakeK.len {d : List UInt8} {a : AskD} {since rho : Int} {waits : Bool} {t now : Int} {kl : List (Nat × TruD)} {kn : List (Nat × Bool)} {done : Bool} {x : TldD} {bs : List UInt8} {e : Int} {waits' : Bool} {now' : Int} {kl' : List (Nat × TruD)}
    (h : TakeK d a since rho waits t now kl kn done x bs e waits' now' kl') : kl'.length ≤ kl.length + 1 := by
  rcases h with h | ⟨y, _, h | h | h⟩
  · rw [h.2.2.2.2]; omega
  · rw [h.2.2.2.2]; omega
  · rw [h.2.2.2.2.2]; omega
  · rw [h.2.2.2.2.kl]; split
    · exact learnK_len _ _ _ _ _ _
    · omega
section
variable {d : List UInt8} {a : AskD} {since rho : Int} {waits : Bool} {t now : Int} {kl : List (Nat × TruD)} {kn : List (Nat × Bool)} {done : Bool} {x y : TldD} {bs : List UInt8} {e : Int} {waits' : Bool} {now' : Int} {kl' : List (Nat × TruD)}
theorem TakeK.old (h : TakeK d a since rho waits t now kl kn done x bs e waits' now' kl') (hy : decTld d = some y) (ho : waits = false ∨ y.seq ≠ a.seq) : e = 13 ∧ waits' = waits ∧ now' = now ∧ kl' = kl := by
  rcases h with h | ⟨z, hz, h⟩
  · rw [hy] at h; cases h.1
  · rw [hy] at hz; injection hz with hz; subst hz
    rcases h with h | h | h
    · exact h.2
    · rcases ho with ho | ho
      · rw [h.1] at ho; cases ho
      · exact absurd h.2.1 ho
    · rcases ho with ho | ho
      · rw [h.1] at ho; cases ho
      · exact absurd h.2.1 ho
theorem TakeK.yes (h : TakeK d a since rho waits t now kl kn done x bs e waits' now' kl') (hy : decTld d = some y) (hw : waits = true) (hs : y.seq = a.seq) (hr : y.retry = false) : e = 0 ∧ TakeY y a since rho t now kl kn done x bs waits' now' kl' := by
  rcases h with h | ⟨z, hz, h⟩
  · rw [hy] at h; cases h.1
  · rw [hy] at hz; injection hz with hz; subst hz
    rcases h with h | h | h
    · rcases h.1 with q | q
      · rw [hw] at q; cases q
      · exact absurd hs q
    · rw [hr] at h; cases h.2.2.1
    · exact h.2.2.2
end
section
variable {a : AskD} {since : Int} {waits : Bool} {op : Int} {key : ByteArray} {am sp : Int} {le : Nat} {t id : Int} {seq : Nat} {now : Int} {kl : List (Nat × TruD)} {kn : List (Nat × Bool)} {to nx e : Int} {a' : AskD} {since' : Int} {waits' : Bool} {seq' : Nat} {now' : Int} {kl' : List (Nat × TruD)} {kn' : List (Nat × Bool)}
theorem CallK.yes (h : CallK a since waits op key am sp le t id seq now kl kn to nx e a' since' waits' seq' now' kl' kn') (hw : waits = false) (hb : ¬ callBad op key am sp) : CallY op key am sp le t id seq now kl kn to nx e a' since' waits' seq' now' kl' kn' := by
  rcases h with ⟨h | h, _⟩ | h
  · rw [hw] at h; cases h.1
  · exact absurd h.2.1 hb
  · exact h.2
theorem CallK.no (h : CallK a since waits op key am sp le t id seq now kl kn to nx e a' since' waits' seq' now' kl' kn') (hw : waits = false) (hb : callBad op key am sp) : e = 1 := by
  rcases h with ⟨h | h, _⟩ | h
  · rw [hw] at h; cases h.1
  · exact h.2.2
  · exact absurd hb h.2.good
theorem CallK.inv {n : Nat} (h : CallK a since waits op key am sp le t id seq now kl kn to nx e a' since' waits' seq' now' kl' kn') (hx : (callAsk op key am sp le).wf) (ha : a.wf) (hs : seq ≤ n) (hl : kl.length ≤ n) (has : a.seq ≤ n) (hn : n ≤ 1000000) : a'.wf ∧ seq' ≤ n + 1 ∧ kl'.length ≤ n + 1 ∧ a'.seq ≤ n + 1 := by
  rcases h with ⟨_, h⟩ | ⟨_, h⟩
  · rw [h.1, h.2.2.2.1, h.2.2.2.2.2.1]; exact ⟨ha, by omega, by omega, by omega⟩
  · rw [h.a, h.seq, h.kl]
    refine ⟨begA_wf hx (by omega), by omega, ?_, by rw [begA_seq]; omega⟩
    split
    · have := delA_len le kl; omega
    · omega
theorem LookK.inv {lazy : Bool} {n : Nat} (h : LookK a since waits key lazy t id seq now e a' since' waits' seq' now') (ha : a.wf) (hs : seq ≤ n) (has : a.seq ≤ n) (hn : n ≤ 1000000) : a'.wf ∧ seq' ≤ n + 1 ∧ a'.seq ≤ n + 1 := by
  rcases h with ⟨_, h⟩ | ⟨_, hk, _, h⟩
  · rw [h.1, h.2.2.2.1]; exact ⟨ha, by omega, by omega⟩
  · rw [h.1, h.2.2.2.1]; exact ⟨begA_wf (lookAsk_wf (by omega)) (by omega), by omega, by rw [begA_seq]; omega⟩
theorem LookK.busy {lazy : Bool} (h : LookK a since waits key lazy t id seq now e a' since' waits' seq' now') (hk : key.size ≤ 64) : waits' = true ∧ (waits = true ↔ e = 15) := by
  rcases h with ⟨h | h, _, _, h2, _⟩ | ⟨h1, _, h3, _, _, h2, _⟩
  · exact ⟨h2.trans h.1, by simp [h.1, h.2]⟩
  · omega
  · exact ⟨h2, by simp [h1, h3]⟩
end
/-! ### what may be admitted -/
def useB (key : ByteArray) (now : Int) (x : TruD) : Bool := decide (x.key = key) && decide (now < x.till)
def useL (key : ByteArray) (now : Int) (kl : List (Nat × TruD)) (ids : List Nat) : List Int :=
  ((ids.map fun i => (getA i kl).getD TruD.zero).filter (useB key now)).map (·.amount)
theorem useL_yes {key : ByteArray} {now : Int} {kl : List (Nat × TruD)} {ids : List Nat} {k : Nat} (h : k < ids.length) (h1 : ((getA (nth ids k) kl).getD TruD.zero).key = key) (h2 : now < ((getA (nth ids k) kl).getD TruD.zero).till) :
    useL key now kl (ids.take k) ++ [((getA (nth ids k) kl).getD TruD.zero).amount] = useL key now kl (ids.take (k + 1)) := by
  unfold useL
  rw [take_nth h, List.map_append, List.filter_append, List.map_append, List.map_cons, List.map_nil, List.filter_cons_of_pos (by unfold useB; rw [decide_eq_true h1, decide_eq_true h2]; rfl)]; rfl
theorem useL_no {key : ByteArray} {now : Int} {kl : List (Nat × TruD)} {ids : List Nat} {k : Nat} (h : k < ids.length) (h1 : ¬ (((getA (nth ids k) kl).getD TruD.zero).key = key ∧ now < ((getA (nth ids k) kl).getD TruD.zero).till)) :
    useL key now kl (ids.take k) = useL key now kl (ids.take (k + 1)) := by
  unfold useL
  rw [take_nth h, List.map_append, List.filter_append, List.map_append, List.map_cons, List.map_nil, List.filter_cons_of_neg]
  · simp
  · unfold useB; rw [Bool.and_eq_true, decide_eq_true_iff, decide_eq_true_iff]; exact h1
theorem useL_len (key : ByteArray) (now : Int) (kl : List (Nat × TruD)) (ids : List Nat) : (useL key now kl ids).length ≤ ids.length := by
  unfold useL; rw [List.length_map]
  exact Nat.le_trans (List.length_filter_le _ _) (by rw [List.length_map]; exact Nat.le_refl _)
def admE (am : Int) (q : Int × Int) : Int := if q.2 ≠ 0 then q.2 else if q.1 < am then 16 else 0
def AdmK (key : ByteArray) (am now : Int) (kl : List (Nat × TruD)) (e : Int) : Prop :=
  (am < 1 ∧ e = 1) ∨ (¬ am < 1 ∧ ∃ ids : List Nat, ids.Perm (kl.map (·.1)) ∧ ids.Pairwise (fun x y => x ≤ y) ∧ e = admE am (totF 0 (useL key now kl ids)))
/-- What is asked and trusted is of a size. -/
structure EInv (n : Nat) (a : AskD) (seq : Nat) (kl : List (Nat × TruD)) : Prop where
  wf : a.wf
  seq : seq ≤ n
  len : kl.length ≤ n
  aseq : a.seq ≤ n
end Go.Proofs.YtgcmbdgimepnmaaGreat
