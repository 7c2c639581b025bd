import Derived.Test.YtcdiehplbmkmeaaLedP
set_option linter.unusedSectionVars false
set_option linter.unusedSimpArgs false
set_option linter.unusedVariables false
set_option maxRecDepth 10000
namespace Go.Proofs.Ytcdiehplbmkmeaa
open Go Go.Sc Go.Proofs
structure LSt (idx : Nat) (now : Int) (cnt : Nat) (kb : List (ByteArray × Int)) (kl : List (Nat × LeaD)) (kr : List (Nat × RepD)) (idx2 : Nat) (now2 : Int) (cnt2 : Nat) (bs : List BudD) (ls : List LeaD) (rs : List RepD) : Prop where
  i : idx = idx2
  n : now = now2
  c : cnt = cnt2
  h : LOkR now2 cnt2 bs ls rs
  r : LRel kb kl kr bs ls rs
theorem zKQ {now : Int} {cnt : Nat} {bs : List BudD} {ls : List LeaD} {kb : List (ByteArray × Int)} {kl : List (Nat × LeaD)} (ho : QOk now cnt bs ls) (hc : cnt ≤ 1000000000) (hr : QRel kb kl bs ls) : ∀ i l, zY i kl = some l → l.id < 18446744073709551616 ∧ ye l.amount ∧ ye l.until_ := fun i l h => zCP ho hc l ((ho.look hr).1 h).1
section
variable {idx : Nat} {now : Int} {cnt : Nat} {kb : List (ByteArray × Int)} {kl : List (Nat × LeaD)} {kr : List (Nat × RepD)} {idx2 : Nat} {now2 : Int} {cnt2 : Nat} {bs : List BudD} {ls : List LeaD} {rs : List RepD}
theorem LSt.ht (h : LSt idx now cnt kb kl kr idx2 now2 cnt2 bs ls rs) : 0 ≤ now ∧ now ≤ 2305843009213693952 := by rw [h.n]; exact h.h.q.time
theorem LSt.nd (h : LSt idx now cnt kb kl kr idx2 now2 cnt2 bs ls rs) : KNd kl := h.h.q.knl h.r.q
theorem LSt.len (h : LSt idx now cnt kb kl kr idx2 now2 cnt2 bs ls rs) : kl.length ≤ 128 := by rw [h.r.q.llen]; exact h.h.q.llen
theorem LSt.lent (h : LSt idx now cnt kb kl kr idx2 now2 cnt2 bs ls rs) {d : Int} (hd : ye d) (k : ByteArray) : 0 ≤ z4 k (kd now d kl) ∧ z4 k (kd now d kl) ≤ 9223372036854775807 := by
  rw [h.n, (h.r.q.pass d).lent]; exact (h.h.q.pass d hd).lent0 k
theorem LSt.lent1 (h : LSt idx now cnt kb kl kr idx2 now2 cnt2 bs ls rs) (k : ByteArray) : 0 ≤ z4 k kl ∧ z4 k kl ≤ 9223372036854775807 := by
  rw [h.r.q.lent]; exact h.h.q.lent0 k
theorem LSt.start : LSt 0 0 0 [] [] [] 0 0 0 [] [] [] := ⟨rfl, rfl, rfl, LOkR.start, LRel.start⟩
theorem LSt.do (h : LSt idx now cnt kb kl kr idx2 now2 cnt2 bs ls rs) {c : CmdD} {r s : RepD} {did did2 : Bool} {cnt' cnt3 : Nat} {kb' : List (ByteArray × Int)} {kl' : List (Nat × LeaD)} {kr' : List (Nat × RepD)} {bs' : List BudD} {ls' : List LeaD} {rs' : List RepD} (hc : c.wf) (hn : cnt2 < 1000000000) (h1 : DoK now cnt kb kl kr c r did cnt' kb' kl' kr') (h2 : DoR now2 cnt2 bs ls rs c s did2 cnt3 bs' ls' rs') :
    (r = s ∧ did = did2) ∧ LSt idx now cnt' kb' kl' kr' idx2 now2 cnt3 bs' ls' rs' ∧ cnt3 ≤ cnt2 + 1 ∧ r.wf := by
  obtain ⟨rfl, rfl, rfl, ho, hr⟩ := h
  obtain ⟨q1, q2, q3, q4, q5, q6, q7⟩ := zJa ho hr hc hn h1 h2
  exact ⟨⟨q1, q2⟩, ⟨rfl, rfl, q3, q5, q4⟩, q7, q6⟩
end
section
variable {now : Int} {cnt : Nat} {kb : List (ByteArray × Int)} {kl : List (Nat × LeaD)} {kr : List (Nat × RepD)}
theorem LSt.kl0 {idx : Nat} {idx2 : Nat} {now2 : Int} {cnt2 : Nat} {bs : List BudD} {ls : List LeaD} {rs : List RepD} (h : LSt idx now cnt kb kl kr idx2 now2 cnt2 bs ls rs) (hc : cnt2 ≤ 1000000000) : ∀ i l, zY i kl = some l → l.id < 18446744073709551616 ∧ ye l.amount ∧ ye l.until_ := zKQ h.h.q hc h.r.q
end
def cmd1 : CmdD := { session := 1, seq := 1, op := 1, key := (⟨#[107]⟩ : ByteArray), amount := 5, span := 0, lease := 0 }
theorem zHc : cmd1.wf := ⟨by decide, by decide, by decide, by unfold ye; decide, by unfold ye; decide, by decide⟩
structure RL where
  now : Int
  cnt : Nat
  bs : List BudD
  ls : List LeaD
  rs : List RepD
def kG (ls : List LeaD) (i s : Nat) : Nat := ls.findIdx fun l => decide (l.id = i ∧ l.session = s)
theorem kZ {ls : List LeaD} {i s : Nat} (h : kG ls i s < ls.length) : (zG ls (kG ls i s)).id = i ∧ (zG ls (kG ls i s)).session = s := by
  have h1 := List.findIdx_getElem (w := h)
  rw [jk (List.getElem?_eq_getElem h)]
  exact of_decide_eq_true h1
theorem zBN {ls : List LeaD} {i s : Nat} (h : ¬ kG ls i s < ls.length) : ∀ l ∈ ls, ¬ (l.id = i ∧ l.session = s) := fun l hl hq =>
  h (List.findIdx_lt_length.2 ⟨l, hl, decide_eq_true hq⟩)
def jt (now : Int) (bs : List BudD) (ls : List LeaD) (s i : Nat) (sp : Int) : (LeaD × Int) × List LeaD :=
  if ¬ yG sp then ((LeaD.zero, 1), ls) else if ¬ kG ls i s < ls.length then ((LeaD.zero, 17), ls)
  else if xh (zG ls (kG ls i s)).key bs < xN (zG ls (kG ls i s)).key ls then ((LeaD.zero, 16), ls)
  else ((xR (zG ls (kG ls i s)) (now + sp), 0), ls.set (kG ls i s) (xR (zG ls (kG ls i s)) (now + sp)))
theorem zE6 (now : Int) (bs : List BudD) (ls : List LeaD) (s i : Nat) (sp : Int) : zEJ now bs ls s i sp (jt now bs ls s i sp).1.1 (jt now bs ls s i sp).1.2 (jt now bs ls s i sp).2 := by
  unfold jt
  split
  · rename_i h; exact .inl ⟨h, rfl, rfl, rfl⟩
  · rename_i h
    have h := Decidable.not_not.1 h
    split
    · rename_i h2; exact .inr (.inl ⟨h, zBN h2, rfl, rfl, rfl⟩)
    · rename_i h2
      have h2 := Decidable.not_not.1 h2
      refine .inr (.inr ⟨h, _, h2, (kZ h2).1, (kZ h2).2, ?_⟩)
      split
      · rename_i h3; exact .inl ⟨h3, rfl, rfl, rfl⟩
      · rename_i h3; exact .inr ⟨by omega, rfl, rfl, rfl⟩
def zBG (ls : List LeaD) (s i : Nat) : (LeaD × Int) × List LeaD :=
  if ¬ kG ls i s < ls.length then ((LeaD.zero, 17), ls) else ((zG ls (kG ls i s), 0), ls.take (kG ls i s) ++ ls.drop (kG ls i s + 1))
theorem zFc (ls : List LeaD) (s i : Nat) : zFt ls s i (zBG ls s i).1.1 (zBG ls s i).1.2 (zBG ls s i).2 := by
  unfold zBG
  split
  · rename_i h2; exact .inl ⟨zBN h2, rfl, rfl, rfl⟩
  · rename_i h2
    have h2 := Decidable.not_not.1 h2
    exact .inr ⟨_, h2, (kZ h2).1, (kZ h2).2, rfl, rfl, rfl⟩
def zAm (t : RL) (c : CmdD) : RepD × RL :=
  if c.op = 1 then (zG6 c (zDx c.key c.amount t.bs) (xN c.key t.ls), { t with bs := zDS c.key c.amount t.bs })
  else if c.op = 2 then
    (kc c (jA (kq c.session c.key c.amount c.span t.bs t.ls) t.cnt c.session c.key c.amount (t.now + c.span)) (kq c.session c.key c.amount c.span t.bs t.ls),
      { t with cnt := zAc (kq c.session c.key c.amount c.span t.bs t.ls) t.cnt, ls := zBX (kq c.session c.key c.amount c.span t.bs t.ls) (jA (kq c.session c.key c.amount c.span t.bs t.ls) t.cnt c.session c.key c.amount (t.now + c.span)) t.ls })
  else if c.op = 3 then (kc c (jt t.now t.bs t.ls c.session c.lease c.span).1.1 (jt t.now t.bs t.ls c.session c.lease c.span).1.2, { t with ls := (jt t.now t.bs t.ls c.session c.lease c.span).2 })
  else if c.op = 4 then (kc c (zBG t.ls c.session c.lease).1.1 (zBG t.ls c.session c.lease).1.2, { t with ls := (zBG t.ls c.session c.lease).2 })
  else (xa c 0, t)
theorem zEf (t : RL) (c : CmdD) : zHs t.now t.cnt t.bs t.ls c (zAm t c).1 (zAm t c).2.cnt (zAm t c).2.bs (zAm t c).2.ls ∧ (zAm t c).2.now = t.now ∧ (zAm t c).2.rs = t.rs := by
  unfold zAm
  by_cases h1 : c.op = 1
  · rw [if_pos h1]; exact ⟨.inl ⟨h1, rfl, rfl, rfl, rfl⟩, rfl, rfl⟩
  · rw [if_neg h1]
    by_cases h2 : c.op = 2
    · rw [if_pos h2]; exact ⟨.inr (.inl ⟨h2, _, _, rfl, rfl, rfl, rfl, rfl, rfl⟩), rfl, rfl⟩
    · rw [if_neg h2]
      by_cases h3 : c.op = 3
      · rw [if_pos h3]; exact ⟨.inr (.inr (.inl ⟨h3, _, _, zE6 _ _ _ _ _ _, rfl, rfl, rfl⟩)), rfl, rfl⟩
      · rw [if_neg h3]
        by_cases h4 : c.op = 4
        · rw [if_pos h4]; exact ⟨.inr (.inr (.inr (.inl ⟨h4, _, _, zFc _ _ _, rfl, rfl, rfl⟩))), rfl, rfl⟩
        · rw [if_neg h4]; exact ⟨.inr (.inr (.inr (.inr ⟨⟨⟨h1, h2⟩, h3, h4⟩, rfl, rfl, rfl, rfl⟩))), rfl, rfl⟩
def zDt (t : RL) (c : CmdD) : Option RepD :=
  if ¬ c.ok then some (xa c 2) else if c.session = 0 then some (xa c (if c.op = 5 then 0 else 1)) else if c.seq = 0 then some (xa c 18)
  else if (zy (KR t.rs) c.session c.seq).2 = 8 then none
  else some (if (zy (KR t.rs) c.session c.seq).2 = 0 then (zy (KR t.rs) c.session c.seq).1 else xa c (if (zy (KR t.rs) c.session c.seq).2 = 13 then 18 else (zy (KR t.rs) c.session c.seq).2))
theorem jI {t : RL} {c : CmdD} {r : RepD} (h : xB c (zy (KR t.rs) c.session c.seq) r) : zDt t c = some r := by
  unfold zDt
  rcases h with ⟨h, rfl⟩ | ⟨h1, h2, rfl⟩ | ⟨h1, h2, h3, rfl⟩ | ⟨⟨h1, h2, h3⟩, h4, rfl⟩
  · rw [if_pos h]
  · rw [if_neg (fun q => q h1), if_pos h2]
  · rw [if_neg (fun q => q h1), if_neg h2, if_pos h3]
  · rw [if_neg (fun q => q h1), if_neg h2, if_neg h3, if_neg h4]
theorem zFG {t : RL} {c : CmdD} (h : GoR c (zy (KR t.rs) c.session c.seq)) : zDt t c = none := by
  unfold zDt
  rw [if_neg (fun q => q h.1.1), if_neg h.1.2.1, if_neg h.1.2.2, if_pos h.2]
theorem zH6 (t : RL) (c : CmdD) : (∃ r, zDt t c = some r ∧ xB c (zy (KR t.rs) c.session c.seq) r) ∨ (zDt t c = none ∧ GoR c (zy (KR t.rs) c.session c.seq)) := by
  by_cases h1 : c.ok
  · by_cases h2 : c.session = 0
    · have h : xB c (zy (KR t.rs) c.session c.seq) (xa c (if c.op = 5 then 0 else 1)) := .inr (.inl ⟨h1, h2, rfl⟩)
      exact .inl ⟨_, jI h, h⟩
    · by_cases h3 : c.seq = 0
      · have h : xB c (zy (KR t.rs) c.session c.seq) (xa c 18) := .inr (.inr (.inl ⟨h1, h2, h3, rfl⟩))
        exact .inl ⟨_, jI h, h⟩
      · by_cases h4 : (zy (KR t.rs) c.session c.seq).2 = 8
        · exact .inr ⟨zFG ⟨⟨h1, h2, h3⟩, h4⟩, ⟨h1, h2, h3⟩, h4⟩
        · have h : xB c (zy (KR t.rs) c.session c.seq) _ := .inr (.inr (.inr ⟨⟨h1, h2, h3⟩, h4, rfl⟩))
          exact .inl ⟨_, jI h, h⟩
  · have h : xB c (zy (KR t.rs) c.session c.seq) (xa c 2) := .inl ⟨h1, rfl⟩
    exact .inl ⟨_, jI h, h⟩
def doF (t : RL) (c : CmdD) : (RepD × Bool) × RL :=
  match zDt t c with
  | some r => ((r, false), t)
  | none => (((zAm t c).1, true), { (zAm t c).2 with rs := zAg t.rs (zAm t c).1 })
theorem zI0 (t : RL) (c : CmdD) : DoR t.now t.cnt t.bs t.ls t.rs c (doF t c).1.1 (doF t c).1.2 (doF t c).2.cnt (doF t c).2.bs (doF t c).2.ls (doF t c).2.rs ∧ (doF t c).2.now = t.now := by
  unfold doF
  rcases zH6 t c with ⟨r, h, h2⟩ | ⟨h, h2⟩
  · rw [h]; exact ⟨.inl ⟨h2, rfl, rfl, rfl, rfl, rfl⟩, rfl⟩
  · rw [h]; exact ⟨.inr ⟨h2, (zEf t c).1, rfl, rfl⟩, (zEf t c).2.1⟩
end Go.Proofs.Ytcdiehplbmkmeaa
