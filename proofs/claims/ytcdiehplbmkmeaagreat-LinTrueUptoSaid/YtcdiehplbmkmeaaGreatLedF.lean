import Derived.Test.YtcdiehplbmkmeaaGreatLedP
set_option linter.unusedSectionVars false
set_option linter.unusedSimpArgs false
set_option linter.unusedVariables false
set_option maxRecDepth 10000
namespace Go.Proofs.YtcdiehplbmkmeaaGreat
open Go Go.Sc Go.Proofs
structure LSt (idx : Nat) (now : Int) (cnt : Nat) (kb : List (ByteArray × Int)) (kl : List (Nat × LeaD)) (kr : List (Nat × RepD)) (idx2 : Nat) (now2 : Int) (cnt2 : Nat) (bs : List BudD) (ls : List LeaD) (rs : List RepD) : Prop where
  i : idx = idx2
  n : now = now2
  c : cnt = cnt2
  h : LOkR now2 cnt2 bs ls rs
  r : LRel kb kl kr bs ls rs
theorem zKt {now : Int} {cnt : Nat} {bs : List BudD} {ls : List LeaD} {kb : List (ByteArray × Int)} {kl : List (Nat × LeaD)} (ho : QOk now cnt bs ls) (hc : cnt ≤ 1000000000) (hr : QRel kb kl bs ls) : ∀ i l, zf i kl = some l → l.id < 18446744073709551616 ∧ yw l.amount ∧ yw l.until_ := fun i l h => zC2 ho hc l ((ho.look hr).1 h).1
section
variable {idx : Nat} {now : Int} {cnt : Nat} {kb : List (ByteArray × Int)} {kl : List (Nat × LeaD)} {kr : List (Nat × RepD)} {idx2 : Nat} {now2 : Int} {cnt2 : Nat} {bs : List BudD} {ls : List LeaD} {rs : List RepD}
theorem LSt.ht (h : LSt idx now cnt kb kl kr idx2 now2 cnt2 bs ls rs) : 0 ≤ now ∧ now ≤ 2305843009213693952 := by rw [h.n]; exact h.h.q.time
theorem LSt.nd (h : LSt idx now cnt kb kl kr idx2 now2 cnt2 bs ls rs) : KNd kl := h.h.q.knl h.r.q
theorem LSt.len (h : LSt idx now cnt kb kl kr idx2 now2 cnt2 bs ls rs) : kl.length ≤ 128 := by rw [h.r.q.llen]; exact h.h.q.llen
theorem LSt.lent (h : LSt idx now cnt kb kl kr idx2 now2 cnt2 bs ls rs) {d : Int} (hd : yw d) (k : ByteArray) : 0 ≤ yC k (jI now d kl) ∧ yC k (jI now d kl) ≤ 9223372036854775807 := by
  rw [h.n, (h.r.q.pass d).lent]; exact (h.h.q.pass d hd).lent0 k
theorem LSt.lent1 (h : LSt idx now cnt kb kl kr idx2 now2 cnt2 bs ls rs) (k : ByteArray) : 0 ≤ yC k kl ∧ yC k kl ≤ 9223372036854775807 := by
  rw [h.r.q.lent]; exact h.h.q.lent0 k
theorem LSt.start : LSt 0 0 0 [] [] [] 0 0 0 [] [] [] := ⟨rfl, rfl, rfl, LOkR.start, LRel.start⟩
theorem LSt.do (h : LSt idx now cnt kb kl kr idx2 now2 cnt2 bs ls rs) {c : CmdD} {r s : RepD} {did did2 : Bool} {cnt' cnt3 : Nat} {kb' : List (ByteArray × Int)} {kl' : List (Nat × LeaD)} {kr' : List (Nat × RepD)} {bs' : List BudD} {ls' : List LeaD} {rs' : List RepD} (hc : c.wf) (hn : cnt2 < 1000000000) (h1 : DoK now cnt kb kl kr c r did cnt' kb' kl' kr') (h2 : DoR now2 cnt2 bs ls rs c s did2 cnt3 bs' ls' rs') :
    (r = s ∧ did = did2) ∧ LSt idx now cnt' kb' kl' kr' idx2 now2 cnt3 bs' ls' rs' ∧ cnt3 ≤ cnt2 + 1 ∧ r.wf := by
  obtain ⟨rfl, rfl, rfl, ho, hr⟩ := h
  obtain ⟨q1, q2, q3, q4, q5, q6, q7⟩ := zEZ ho hr hc hn h1 h2
  exact ⟨⟨q1, q2⟩, ⟨rfl, rfl, q3, q5, q4⟩, q7, q6⟩
end
section
variable {now : Int} {cnt : Nat} {kb : List (ByteArray × Int)} {kl : List (Nat × LeaD)} {kr : List (Nat × RepD)}
theorem LSt.kl0 {idx : Nat} {idx2 : Nat} {now2 : Int} {cnt2 : Nat} {bs : List BudD} {ls : List LeaD} {rs : List RepD} (h : LSt idx now cnt kb kl kr idx2 now2 cnt2 bs ls rs) (hc : cnt2 ≤ 1000000000) : ∀ i l, zf i kl = some l → l.id < 18446744073709551616 ∧ yw l.amount ∧ yw l.until_ := zKt h.h.q hc h.r.q
end
def cmd1 : CmdD := { session := 1, seq := 1, op := 1, key := (⟨#[107]⟩ : ByteArray), amount := 5, span := 0, lease := 0 }
theorem zI6 : cmd1.wf := ⟨by decide, by decide, by decide, by unfold yw; decide, by unfold yw; decide, by decide⟩
structure RL where
  now : Int
  cnt : Nat
  bs : List BudD
  ls : List LeaD
  rs : List RepD
def x2 (ls : List LeaD) (i s : Nat) : Nat := ls.findIdx fun l => decide (l.id = i ∧ l.session = s)
theorem xr {ls : List LeaD} {i s : Nat} (h : x2 ls i s < ls.length) : (zH ls (x2 ls i s)).id = i ∧ (zH ls (x2 ls i s)).session = s := by
  have h1 := List.findIdx_getElem (w := h)
  rw [ki (List.getElem?_eq_getElem h)]
  exact of_decide_eq_true h1
theorem zB0 {ls : List LeaD} {i s : Nat} (h : ¬ x2 ls i s < ls.length) : ∀ l ∈ ls, ¬ (l.id = i ∧ l.session = s) := fun l hl hq =>
  h (List.findIdx_lt_length.2 ⟨l, hl, decide_eq_true hq⟩)
theorem zKO {ls : List LeaD} (h : (ls.map (·.id)).Pairwise (· < ·)) {j k : Nat} (hj : j < ls.length) (hk : k < ls.length) (e : (zH ls j).id = (zH ls k).id) : j = k := by
  have h1 := ki (List.getElem?_eq_getElem hj)
  have h2 := ki (List.getElem?_eq_getElem hk)
  rcases Nat.lt_trichotomy j k with q | q | q
  · have := List.pairwise_iff_getElem.1 h j k (by rw [List.length_map]; exact hj) (by rw [List.length_map]; exact hk) q
    rw [List.getElem_map, List.getElem_map, ← h1, ← h2] at this; omega
  · exact q
  · have := List.pairwise_iff_getElem.1 h k j (by rw [List.length_map]; exact hk) (by rw [List.length_map]; exact hj) q
    rw [List.getElem_map, List.getElem_map, ← h1, ← h2] at this; omega
theorem zDi {ls : List LeaD} (h : (ls.map (·.id)).Pairwise (· < ·)) {i s k : Nat} (hk : k < ls.length) (h1 : (zH ls k).id = i) (h2 : (zH ls k).session = s) : x2 ls i s = k := by
  have hl : x2 ls i s < ls.length := List.findIdx_lt_length.2 ⟨zH ls k, yT hk, decide_eq_true ⟨h1, h2⟩⟩
  exact zKO h hl hk ((xr hl).1.trans h1.symm)
theorem zCj {ls : List LeaD} {i s : Nat} (h : ∀ l ∈ ls, ¬ (l.id = i ∧ l.session = s)) : ¬ x2 ls i s < ls.length := fun q => h _ (yT q) (xr q)
def jO (now : Int) (bs : List BudD) (ls : List LeaD) (s i : Nat) (sp : Int) : (LeaD × Int) × List LeaD :=
  if ¬ yQ sp then ((LeaD.zero, 1), ls) else if ¬ x2 ls i s < ls.length then ((LeaD.zero, 17), ls)
  else if yR (zH ls (x2 ls i s)).key bs < yF (zH ls (x2 ls i s)).key ls then ((LeaD.zero, 16), ls)
  else ((y3 (zH ls (x2 ls i s)) (now + sp), 0), ls.set (x2 ls i s) (y3 (zH ls (x2 ls i s)) (now + sp)))
theorem zF9 (now : Int) (bs : List BudD) (ls : List LeaD) (s i : Nat) (sp : Int) : zAw now bs ls s i sp (jO now bs ls s i sp).1.1 (jO now bs ls s i sp).1.2 (jO now bs ls s i sp).2 := by
  unfold jO
  split
  · rename_i h; exact .inl ⟨h, rfl, rfl, rfl⟩
  · rename_i h
    have h := Decidable.not_not.1 h
    split
    · rename_i h2; exact .inr (.inl ⟨h, zB0 h2, rfl, rfl, rfl⟩)
    · rename_i h2
      have h2 := Decidable.not_not.1 h2
      refine .inr (.inr ⟨h, _, h2, (xr h2).1, (xr h2).2, ?_⟩)
      split
      · rename_i h3; exact .inl ⟨h3, rfl, rfl, rfl⟩
      · rename_i h3; exact .inr ⟨by omega, rfl, rfl, rfl⟩
theorem zF8 {now : Int} {bs : List BudD} {ls ls' : List LeaD} {s i : Nat} {sp : Int} {x : LeaD} {e : Int} (hu : (ls.map (·.id)).Pairwise (· < ·)) (h : zAw now bs ls s i sp x e ls') : jO now bs ls s i sp = ((x, e), ls') := by
  unfold jO
  rcases h with ⟨h, rfl, rfl, rfl⟩ | ⟨h, h2, rfl, rfl, rfl⟩ | ⟨h, k, hk, h1, h2, h3⟩
  · rw [if_pos h]
  · rw [if_neg (fun q => q h), if_pos (zCj h2)]
  · rw [if_neg (fun q => q h), zDi hu hk h1 h2, if_neg (fun q => q hk)]
    rcases h3 with ⟨h3, rfl, rfl, rfl⟩ | ⟨h3, rfl, rfl, rfl⟩
    · rw [if_pos h3]
    · rw [if_neg (by omega)]
def zAm (ls : List LeaD) (s i : Nat) : (LeaD × Int) × List LeaD :=
  if ¬ x2 ls i s < ls.length then ((LeaD.zero, 17), ls) else ((zH ls (x2 ls i s), 0), ls.take (x2 ls i s) ++ ls.drop (x2 ls i s + 1))
theorem zGq (ls : List LeaD) (s i : Nat) : zCp ls s i (zAm ls s i).1.1 (zAm ls s i).1.2 (zAm ls s i).2 := by
  unfold zAm
  split
  · rename_i h2; exact .inl ⟨zB0 h2, rfl, rfl, rfl⟩
  · rename_i h2
    have h2 := Decidable.not_not.1 h2
    exact .inr ⟨_, h2, (xr h2).1, (xr h2).2, rfl, rfl, rfl⟩
theorem zH5 {ls ls' : List LeaD} {s i : Nat} {x : LeaD} {e : Int} (hu : (ls.map (·.id)).Pairwise (· < ·)) (h : zCp ls s i x e ls') : zAm ls s i = ((x, e), ls') := by
  unfold zAm
  rcases h with ⟨h, rfl, rfl, rfl⟩ | ⟨k, hk, h1, h2, rfl, rfl, rfl⟩
  · rw [if_pos (zCj h)]
  · rw [zDi hu hk h1 h2, if_neg (fun q => q hk)]
def zAR (t : RL) (c : CmdD) : RepD × RL :=
  if c.op = 1 then (zGC c (zAI c.key c.amount t.bs) (yF c.key t.ls), { t with bs := zA1 c.key c.amount t.bs })
  else if c.op = 2 then
    (kF c (kL (xI c.session c.key c.amount c.span t.bs t.ls) t.cnt c.session c.key c.amount (t.now + c.span)) (xI c.session c.key c.amount c.span t.bs t.ls),
      { t with cnt := zAk (xI c.session c.key c.amount c.span t.bs t.ls) t.cnt, ls := zBH (xI c.session c.key c.amount c.span t.bs t.ls) (kL (xI c.session c.key c.amount c.span t.bs t.ls) t.cnt c.session c.key c.amount (t.now + c.span)) t.ls })
  else if c.op = 3 then (kF c (jO t.now t.bs t.ls c.session c.lease c.span).1.1 (jO t.now t.bs t.ls c.session c.lease c.span).1.2, { t with ls := (jO t.now t.bs t.ls c.session c.lease c.span).2 })
  else if c.op = 4 then (kF c (zAm t.ls c.session c.lease).1.1 (zAm t.ls c.session c.lease).1.2, { t with ls := (zAm t.ls c.session c.lease).2 })
  else (xj c 0, t)
theorem zEx (t : RL) (c : CmdD) : zFh t.now t.cnt t.bs t.ls c (zAR t c).1 (zAR t c).2.cnt (zAR t c).2.bs (zAR t c).2.ls ∧ (zAR t c).2.now = t.now ∧ (zAR t c).2.rs = t.rs := by
  unfold zAR
  by_cases h1 : c.op = 1
  · rw [if_pos h1]; exact ⟨.inl ⟨h1, rfl, rfl, rfl, rfl⟩, rfl, rfl⟩
  · rw [if_neg h1]
    by_cases h2 : c.op = 2
    · rw [if_pos h2]; exact ⟨.inr (.inl ⟨h2, _, _, rfl, rfl, rfl, rfl, rfl, rfl⟩), rfl, rfl⟩
    · rw [if_neg h2]
      by_cases h3 : c.op = 3
      · rw [if_pos h3]; exact ⟨.inr (.inr (.inl ⟨h3, _, _, zF9 _ _ _ _ _ _, rfl, rfl, rfl⟩)), rfl, rfl⟩
      · rw [if_neg h3]
        by_cases h4 : c.op = 4
        · rw [if_pos h4]; exact ⟨.inr (.inr (.inr (.inl ⟨h4, _, _, zGq _ _ _, rfl, rfl, rfl⟩))), rfl, rfl⟩
        · rw [if_neg h4]; exact ⟨.inr (.inr (.inr (.inr ⟨⟨⟨h1, h2⟩, h3, h4⟩, rfl, rfl, rfl, rfl⟩))), rfl, rfl⟩
theorem zJH {t : RL} {c : CmdD} {r : RepD} {cnt' : Nat} {bs' : List BudD} {ls' : List LeaD} (hu : (t.ls.map (·.id)).Pairwise (· < ·)) (h : zFh t.now t.cnt t.bs t.ls c r cnt' bs' ls') : zAR t c = (r, ⟨t.now, cnt', bs', ls', t.rs⟩) := by
  unfold zAR
  rcases h with ⟨o, rfl, rfl, rfl, rfl⟩ | ⟨o, x, e, rfl, rfl, rfl, rfl, rfl, rfl⟩ | ⟨o, x, e, k, rfl, rfl, rfl⟩ | ⟨o, x, e, k, rfl, rfl, rfl⟩ | ⟨o, rfl, rfl, rfl, rfl⟩
  · rw [if_pos o]
  · rw [if_neg (by omega), if_pos o]
  · rw [if_neg (by omega), if_neg (by omega), if_pos o, zF8 hu k]
  · rw [if_neg (by omega), if_neg (by omega), if_neg (by omega), if_pos o, zH5 hu k]
  · rw [if_neg o.1.1, if_neg o.1.2, if_neg o.2.1, if_neg o.2.2]
def zEF (t : RL) (c : CmdD) : Option RepD :=
  if ¬ c.ok then some (xj c 2) else if c.session = 0 then some (xj c (if c.op = 5 then 0 else 1)) else if c.seq = 0 then some (xj c 18)
  else if (zu (KR t.rs) c.session c.seq).2 = 8 then none
  else some (if (zu (KR t.rs) c.session c.seq).2 = 0 then (zu (KR t.rs) c.session c.seq).1 else xj c (if (zu (KR t.rs) c.session c.seq).2 = 13 then 18 else (zu (KR t.rs) c.session c.seq).2))
theorem ku {t : RL} {c : CmdD} {r : RepD} (h : xR c (zu (KR t.rs) c.session c.seq) r) : zEF t c = some r := by
  unfold zEF
  rcases h with ⟨h, rfl⟩ | ⟨h1, h2, rfl⟩ | ⟨h1, h2, h3, rfl⟩ | ⟨⟨h1, h2, h3⟩, h4, rfl⟩
  · rw [if_pos h]
  · rw [if_neg (fun q => q h1), if_pos h2]
  · rw [if_neg (fun q => q h1), if_neg h2, if_pos h3]
  · rw [if_neg (fun q => q h1), if_neg h2, if_neg h3, if_neg h4]
theorem zCX {t : RL} {c : CmdD} (h : GoR c (zu (KR t.rs) c.session c.seq)) : zEF t c = none := by
  unfold zEF
  rw [if_neg (fun q => q h.1.1), if_neg h.1.2.1, if_neg h.1.2.2, if_pos h.2]
theorem zE0 (t : RL) (c : CmdD) : (∃ r, zEF t c = some r ∧ xR c (zu (KR t.rs) c.session c.seq) r) ∨ (zEF t c = none ∧ GoR c (zu (KR t.rs) c.session c.seq)) := by
  by_cases h1 : c.ok
  · by_cases h2 : c.session = 0
    · have h : xR c (zu (KR t.rs) c.session c.seq) (xj c (if c.op = 5 then 0 else 1)) := .inr (.inl ⟨h1, h2, rfl⟩)
      exact .inl ⟨_, ku h, h⟩
    · by_cases h3 : c.seq = 0
      · have h : xR c (zu (KR t.rs) c.session c.seq) (xj c 18) := .inr (.inr (.inl ⟨h1, h2, h3, rfl⟩))
        exact .inl ⟨_, ku h, h⟩
      · by_cases h4 : (zu (KR t.rs) c.session c.seq).2 = 8
        · exact .inr ⟨zCX ⟨⟨h1, h2, h3⟩, h4⟩, ⟨h1, h2, h3⟩, h4⟩
        · have h : xR c (zu (KR t.rs) c.session c.seq) _ := .inr (.inr (.inr ⟨⟨h1, h2, h3⟩, h4, rfl⟩))
          exact .inl ⟨_, ku h, h⟩
  · have h : xR c (zu (KR t.rs) c.session c.seq) (xj c 2) := .inl ⟨h1, rfl⟩
    exact .inl ⟨_, ku h, h⟩
def doF (t : RL) (c : CmdD) : (RepD × Bool) × RL :=
  match zEF t c with
  | some r => ((r, false), t)
  | none => (((zAR t c).1, true), { (zAR t c).2 with rs := kP t.rs (zAR t c).1 })
theorem zEU (t : RL) (c : CmdD) : DoR t.now t.cnt t.bs t.ls t.rs c (doF t c).1.1 (doF t c).1.2 (doF t c).2.cnt (doF t c).2.bs (doF t c).2.ls (doF t c).2.rs ∧ (doF t c).2.now = t.now := by
  unfold doF
  rcases zE0 t c with ⟨r, h, h2⟩ | ⟨h, h2⟩
  · rw [h]; exact ⟨.inl ⟨h2, rfl, rfl, rfl, rfl, rfl⟩, rfl⟩
  · rw [h]; exact ⟨.inr ⟨h2, (zEx t c).1, rfl, rfl⟩, (zEx t c).2.1⟩
theorem zKe {t : RL} {c : CmdD} {r : RepD} {did : Bool} {cnt' : Nat} {bs' : List BudD} {ls' : List LeaD} {rs' : List RepD} (hu : (t.ls.map (·.id)).Pairwise (· < ·)) (h : DoR t.now t.cnt t.bs t.ls t.rs c r did cnt' bs' ls' rs') : doF t c = ((r, did), ⟨t.now, cnt', bs', ls', rs'⟩) := by
  unfold doF
  rcases h with ⟨h, rfl, rfl, rfl, rfl, rfl⟩ | ⟨h, k, rfl, rfl⟩
  · rw [ku h]
  · rw [zCX h, zJH hu k]
end Go.Proofs.YtcdiehplbmkmeaaGreat
