import Derived.Test.YtcdiehplbmkmeaaLedP
set_option linter.unusedSectionVars false
set_option linter.unusedSimpArgs false
set_option linter.unusedVariables false
set_option maxRecDepth 10000
namespace Go.Proofs.Ytcdiehplbmkmeaa
open Go Go.Sc Go.Proofs
structure LSt (idx : Nat) (now : Int) (cnt : Nat) (kb : List (ByteArray × Int)) (kl : List (Nat × LeaD)) (kr : List (Nat × RepD)) (idx2 : Nat) (now2 : Int) (cnt2 : Nat) (bs : List BudD) (ls : List LeaD) (rs : List RepD) : Prop where
  i : idx = idx2
  n : now = now2
  c : cnt = cnt2
  h : LOkR now2 cnt2 bs ls rs
  r : LRel kb kl kr bs ls rs
theorem zJp {now : Int} {cnt : Nat} {bs : List BudD} {ls : List LeaD} {kb : List (ByteArray × Int)} {kl : List (Nat × LeaD)} (ho : QOk now cnt bs ls) (hc : cnt ≤ 1000000000) (hr : QRel kb kl bs ls) : ∀ i l, zX i kl = some l → l.id < 18446744073709551616 ∧ yd l.amount ∧ yd l.until_ := fun i l h => zB4 ho hc l ((ho.look hr).1 h).1
section
variable {idx : Nat} {now : Int} {cnt : Nat} {kb : List (ByteArray × Int)} {kl : List (Nat × LeaD)} {kr : List (Nat × RepD)} {idx2 : Nat} {now2 : Int} {cnt2 : Nat} {bs : List BudD} {ls : List LeaD} {rs : List RepD}
theorem LSt.ht (h : LSt idx now cnt kb kl kr idx2 now2 cnt2 bs ls rs) : 0 ≤ now ∧ now ≤ 2305843009213693952 := by rw [h.n]; exact h.h.q.time
theorem LSt.nd (h : LSt idx now cnt kb kl kr idx2 now2 cnt2 bs ls rs) : KNd kl := h.h.q.knl h.r.q
theorem LSt.len (h : LSt idx now cnt kb kl kr idx2 now2 cnt2 bs ls rs) : kl.length ≤ 128 := by rw [h.r.q.llen]; exact h.h.q.llen
theorem LSt.lent (h : LSt idx now cnt kb kl kr idx2 now2 cnt2 bs ls rs) {d : Int} (hd : yd d) (k : ByteArray) : 0 ≤ z3 k (kY now d kl) ∧ z3 k (kY now d kl) ≤ 9223372036854775807 := by
  rw [h.n, (h.r.q.pass d).lent]; exact (h.h.q.pass d hd).lent0 k
theorem LSt.lent1 (h : LSt idx now cnt kb kl kr idx2 now2 cnt2 bs ls rs) (k : ByteArray) : 0 ≤ z3 k kl ∧ z3 k kl ≤ 9223372036854775807 := by
  rw [h.r.q.lent]; exact h.h.q.lent0 k
theorem LSt.start : LSt 0 0 0 [] [] [] 0 0 0 [] [] [] := ⟨rfl, rfl, rfl, LOkR.start, LRel.start⟩
theorem LSt.do (h : LSt idx now cnt kb kl kr idx2 now2 cnt2 bs ls rs) {c : CmdD} {r s : RepD} {did did2 : Bool} {cnt' cnt3 : Nat} {kb' : List (ByteArray × Int)} {kl' : List (Nat × LeaD)} {kr' : List (Nat × RepD)} {bs' : List BudD} {ls' : List LeaD} {rs' : List RepD} (hc : c.wf) (hn : cnt2 < 1000000000) (h1 : DoK now cnt kb kl kr c r did cnt' kb' kl' kr') (h2 : DoR now2 cnt2 bs ls rs c s did2 cnt3 bs' ls' rs') :
    (r = s ∧ did = did2) ∧ LSt idx now cnt' kb' kl' kr' idx2 now2 cnt3 bs' ls' rs' ∧ cnt3 ≤ cnt2 + 1 ∧ r.wf := by
  obtain ⟨rfl, rfl, rfl, ho, hr⟩ := h
  obtain ⟨q1, q2, q3, q4, q5, q6, q7⟩ := zIS ho hr hc hn h1 h2
  exact ⟨⟨q1, q2⟩, ⟨rfl, rfl, q3, q5, q4⟩, q7, q6⟩
end
section
variable {now : Int} {cnt : Nat} {kb : List (ByteArray × Int)} {kl : List (Nat × LeaD)} {kr : List (Nat × RepD)}
theorem LSt.kl0 {idx : Nat} {idx2 : Nat} {now2 : Int} {cnt2 : Nat} {bs : List BudD} {ls : List LeaD} {rs : List RepD} (h : LSt idx now cnt kb kl kr idx2 now2 cnt2 bs ls rs) (hc : cnt2 ≤ 1000000000) : ∀ i l, zX i kl = some l → l.id < 18446744073709551616 ∧ yd l.amount ∧ yd l.until_ := zJp h.h.q hc h.r.q
end
def cmd1 : CmdD := { session := 1, seq := 1, op := 1, key := (⟨#[107]⟩ : ByteArray), amount := 5, span := 0, lease := 0 }
theorem zGg : cmd1.wf := ⟨by decide, by decide, by decide, by unfold yd; decide, by unfold yd; decide, by decide⟩
structure RL where
  now : Int
  cnt : Nat
  bs : List BudD
  ls : List LeaD
  rs : List RepD
def x9 (ls : List LeaD) (i s : Nat) : Nat := ls.findIdx fun l => decide (l.id = i ∧ l.session = s)
theorem kX {ls : List LeaD} {i s : Nat} (h : x9 ls i s < ls.length) : (zG ls (x9 ls i s)).id = i ∧ (zG ls (x9 ls i s)).session = s := by
  have h1 := List.findIdx_getElem (w := h)
  rw [zAC (List.getElem?_eq_getElem h)]
  exact of_decide_eq_true h1
theorem zAl {ls : List LeaD} {i s : Nat} (h : ¬ x9 ls i s < ls.length) : ∀ l ∈ ls, ¬ (l.id = i ∧ l.session = s) := fun l hl hq =>
  h (List.findIdx_lt_length.2 ⟨l, hl, decide_eq_true hq⟩)
def jc (now : Int) (bs : List BudD) (ls : List LeaD) (s i : Nat) (sp : Int) : (LeaD × Int) × List LeaD :=
  if ¬ yE sp then ((LeaD.zero, 1), ls) else if ¬ x9 ls i s < ls.length then ((LeaD.zero, 17), ls)
  else if xa (zG ls (x9 ls i s)).key bs < xF (zG ls (x9 ls i s)).key ls then ((LeaD.zero, 16), ls)
  else ((xH (zG ls (x9 ls i s)) (now + sp), 0), ls.set (x9 ls i s) (xH (zG ls (x9 ls i s)) (now + sp)))
theorem zEw (now : Int) (bs : List BudD) (ls : List LeaD) (s i : Nat) (sp : Int) : zDb now bs ls s i sp (jc now bs ls s i sp).1.1 (jc now bs ls s i sp).1.2 (jc now bs ls s i sp).2 := by
  unfold jc
  split
  · rename_i h; exact .inl ⟨h, rfl, rfl, rfl⟩
  · rename_i h
    have h := Decidable.not_not.1 h
    split
    · rename_i h2; exact .inr (.inl ⟨h, zAl h2, rfl, rfl, rfl⟩)
    · rename_i h2
      have h2 := Decidable.not_not.1 h2
      refine .inr (.inr ⟨h, _, h2, (kX h2).1, (kX h2).2, ?_⟩)
      split
      · rename_i h3; exact .inl ⟨h3, rfl, rfl, rfl⟩
      · rename_i h3; exact .inr ⟨by omega, rfl, rfl, rfl⟩
def zA1 (ls : List LeaD) (s i : Nat) : (LeaD × Int) × List LeaD :=
  if ¬ x9 ls i s < ls.length then ((LeaD.zero, 17), ls) else ((zG ls (x9 ls i s), 0), ls.take (x9 ls i s) ++ ls.drop (x9 ls i s + 1))
theorem zGQ (ls : List LeaD) (s i : Nat) : zFB ls s i (zA1 ls s i).1.1 (zA1 ls s i).1.2 (zA1 ls s i).2 := by
  unfold zA1
  split
  · rename_i h2; exact .inl ⟨zAl h2, rfl, rfl, rfl⟩
  · rename_i h2
    have h2 := Decidable.not_not.1 h2
    exact .inr ⟨_, h2, (kX h2).1, (kX h2).2, rfl, rfl, rfl⟩
def zAb (t : RL) (c : CmdD) : RepD × RL :=
  if c.op = 1 then (zFy c (zDT c.key c.amount t.bs) (xF c.key t.ls), { t with bs := zDC c.key c.amount t.bs })
  else if c.op = 2 then
    (kR c (k9 (ko c.session c.key c.amount c.span t.bs t.ls) t.cnt c.session c.key c.amount (t.now + c.span)) (ko c.session c.key c.amount c.span t.bs t.ls),
      { t with cnt := zAW (ko c.session c.key c.amount c.span t.bs t.ls) t.cnt, ls := zAv (ko c.session c.key c.amount c.span t.bs t.ls) (k9 (ko c.session c.key c.amount c.span t.bs t.ls) t.cnt c.session c.key c.amount (t.now + c.span)) t.ls })
  else if c.op = 3 then (kR c (jc t.now t.bs t.ls c.session c.lease c.span).1.1 (jc t.now t.bs t.ls c.session c.lease c.span).1.2, { t with ls := (jc t.now t.bs t.ls c.session c.lease c.span).2 })
  else if c.op = 4 then (kR c (zA1 t.ls c.session c.lease).1.1 (zA1 t.ls c.session c.lease).1.2, { t with ls := (zA1 t.ls c.session c.lease).2 })
  else (xO c 0, t)
theorem zEO (t : RL) (c : CmdD) : zG0 t.now t.cnt t.bs t.ls c (zAb t c).1 (zAb t c).2.cnt (zAb t c).2.bs (zAb t c).2.ls ∧ (zAb t c).2.now = t.now ∧ (zAb t c).2.rs = t.rs := by
  unfold zAb
  by_cases h1 : c.op = 1
  · rw [if_pos h1]; exact ⟨.inl ⟨h1, rfl, rfl, rfl, rfl⟩, rfl, rfl⟩
  · rw [if_neg h1]
    by_cases h2 : c.op = 2
    · rw [if_pos h2]; exact ⟨.inr (.inl ⟨h2, _, _, rfl, rfl, rfl, rfl, rfl, rfl⟩), rfl, rfl⟩
    · rw [if_neg h2]
      by_cases h3 : c.op = 3
      · rw [if_pos h3]; exact ⟨.inr (.inr (.inl ⟨h3, _, _, zEw _ _ _ _ _ _, rfl, rfl, rfl⟩)), rfl, rfl⟩
      · rw [if_neg h3]
        by_cases h4 : c.op = 4
        · rw [if_pos h4]; exact ⟨.inr (.inr (.inr (.inl ⟨h4, _, _, zGQ _ _ _, rfl, rfl, rfl⟩))), rfl, rfl⟩
        · rw [if_neg h4]; exact ⟨.inr (.inr (.inr (.inr ⟨⟨⟨h1, h2⟩, h3, h4⟩, rfl, rfl, rfl, rfl⟩))), rfl, rfl⟩
def zDm (t : RL) (c : CmdD) : Option RepD :=
  if ¬ c.ok then some (xO c 2) else if c.session = 0 then some (xO c (if c.op = 5 then 0 else 1)) else if c.seq = 0 then some (xO c 18)
  else if (zy (KR t.rs) c.session c.seq).2 = 8 then none
  else some (if (zy (KR t.rs) c.session c.seq).2 = 0 then (zy (KR t.rs) c.session c.seq).1 else xO c (if (zy (KR t.rs) c.session c.seq).2 = 13 then 18 else (zy (KR t.rs) c.session c.seq).2))
theorem jB {t : RL} {c : CmdD} {r : RepD} (h : y0 c (zy (KR t.rs) c.session c.seq) r) : zDm t c = some r := by
  unfold zDm
  rcases h with ⟨h, rfl⟩ | ⟨h1, h2, rfl⟩ | ⟨h1, h2, h3, rfl⟩ | ⟨⟨h1, h2, h3⟩, h4, rfl⟩
  · rw [if_pos h]
  · rw [if_neg (fun q => q h1), if_pos h2]
  · rw [if_neg (fun q => q h1), if_neg h2, if_pos h3]
  · rw [if_neg (fun q => q h1), if_neg h2, if_neg h3, if_neg h4]
theorem zER {t : RL} {c : CmdD} (h : GoR c (zy (KR t.rs) c.session c.seq)) : zDm t c = none := by
  unfold zDm
  rw [if_neg (fun q => q h.1.1), if_neg h.1.2.1, if_neg h.1.2.2, if_pos h.2]
theorem zHR (t : RL) (c : CmdD) : (∃ r, zDm t c = some r ∧ y0 c (zy (KR t.rs) c.session c.seq) r) ∨ (zDm t c = none ∧ GoR c (zy (KR t.rs) c.session c.seq)) := by
  by_cases h1 : c.ok
  · by_cases h2 : c.session = 0
    · have h : y0 c (zy (KR t.rs) c.session c.seq) (xO c (if c.op = 5 then 0 else 1)) := .inr (.inl ⟨h1, h2, rfl⟩)
      exact .inl ⟨_, jB h, h⟩
    · by_cases h3 : c.seq = 0
      · have h : y0 c (zy (KR t.rs) c.session c.seq) (xO c 18) := .inr (.inr (.inl ⟨h1, h2, h3, rfl⟩))
        exact .inl ⟨_, jB h, h⟩
      · by_cases h4 : (zy (KR t.rs) c.session c.seq).2 = 8
        · exact .inr ⟨zER ⟨⟨h1, h2, h3⟩, h4⟩, ⟨h1, h2, h3⟩, h4⟩
        · have h : y0 c (zy (KR t.rs) c.session c.seq) _ := .inr (.inr (.inr ⟨⟨h1, h2, h3⟩, h4, rfl⟩))
          exact .inl ⟨_, jB h, h⟩
  · have h : y0 c (zy (KR t.rs) c.session c.seq) (xO c 2) := .inl ⟨h1, rfl⟩
    exact .inl ⟨_, jB h, h⟩
def doF (t : RL) (c : CmdD) : (RepD × Bool) × RL :=
  match zDm t c with
  | some r => ((r, false), t)
  | none => (((zAb t c).1, true), { (zAb t c).2 with rs := zAS t.rs (zAb t c).1 })
theorem zID (t : RL) (c : CmdD) : DoR t.now t.cnt t.bs t.ls t.rs c (doF t c).1.1 (doF t c).1.2 (doF t c).2.cnt (doF t c).2.bs (doF t c).2.ls (doF t c).2.rs ∧ (doF t c).2.now = t.now := by
  unfold doF
  rcases zHR t c with ⟨r, h, h2⟩ | ⟨h, h2⟩
  · rw [h]; exact ⟨.inl ⟨h2, rfl, rfl, rfl, rfl, rfl⟩, rfl⟩
  · rw [h]; exact ⟨.inr ⟨h2, (zEO t c).1, rfl, rfl⟩, (zEO t c).2.1⟩
end Go.Proofs.Ytcdiehplbmkmeaa
