import Derived.Test.YtcdiehplbmkmeaaGreatLedP
set_option linter.unusedSectionVars false
set_option linter.unusedSimpArgs false
set_option linter.unusedVariables false
set_option maxRecDepth 10000
namespace Go.Proofs.YtcdiehplbmkmeaaGreat
open Go Go.Sc Go.Proofs
structure LSt (idx : Nat) (now : Int) (cnt : Nat) (kb : List (ByteArray × Int)) (kl : List (Nat × LeaD)) (kr : List (Nat × RepD)) (idx2 : Nat) (now2 : Int) (cnt2 : Nat) (bs : List BudD) (ls : List LeaD) (rs : List RepD) : Prop where
  i : idx = idx2
  n : now = now2
  c : cnt = cnt2
  h : LOkR now2 cnt2 bs ls rs
  r : LRel kb kl kr bs ls rs
theorem zLt {now : Int} {cnt : Nat} {bs : List BudD} {ls : List LeaD} {kb : List (ByteArray × Int)} {kl : List (Nat × LeaD)} (ho : QOk now cnt bs ls) (hc : cnt ≤ 1000000000) (hr : QRel kb kl bs ls) : ∀ i l, zf i kl = some l → l.id < 18446744073709551616 ∧ yx l.amount ∧ yx l.until_ := fun i l h => zDA ho hc l ((ho.look hr).1 h).1
section
variable {idx : Nat} {now : Int} {cnt : Nat} {kb : List (ByteArray × Int)} {kl : List (Nat × LeaD)} {kr : List (Nat × RepD)} {idx2 : Nat} {now2 : Int} {cnt2 : Nat} {bs : List BudD} {ls : List LeaD} {rs : List RepD}
theorem LSt.ht (h : LSt idx now cnt kb kl kr idx2 now2 cnt2 bs ls rs) : 0 ≤ now ∧ now ≤ 2305843009213693952 := by rw [h.n]; exact h.h.q.time
theorem LSt.nd (h : LSt idx now cnt kb kl kr idx2 now2 cnt2 bs ls rs) : KNd kl := h.h.q.knl h.r.q
theorem LSt.len (h : LSt idx now cnt kb kl kr idx2 now2 cnt2 bs ls rs) : kl.length ≤ 128 := by rw [h.r.q.llen]; exact h.h.q.llen
theorem LSt.lent (h : LSt idx now cnt kb kl kr idx2 now2 cnt2 bs ls rs) {d : Int} (hd : yx d) (k : ByteArray) : 0 ≤ yA k (jC now d kl) ∧ yA k (jC now d kl) ≤ 9223372036854775807 := by
  rw [h.n, (h.r.q.pass d).lent]; exact (h.h.q.pass d hd).lent0 k
theorem LSt.lent1 (h : LSt idx now cnt kb kl kr idx2 now2 cnt2 bs ls rs) (k : ByteArray) : 0 ≤ yA k kl ∧ yA k kl ≤ 9223372036854775807 := by
  rw [h.r.q.lent]; exact h.h.q.lent0 k
theorem LSt.start : LSt 0 0 0 [] [] [] 0 0 0 [] [] [] := ⟨rfl, rfl, rfl, LOkR.start, LRel.start⟩
theorem LSt.do (h : LSt idx now cnt kb kl kr idx2 now2 cnt2 bs ls rs) {c : CmdD} {r s : RepD} {did did2 : Bool} {cnt' cnt3 : Nat} {kb' : List (ByteArray × Int)} {kl' : List (Nat × LeaD)} {kr' : List (Nat × RepD)} {bs' : List BudD} {ls' : List LeaD} {rs' : List RepD} (hc : c.wf) (hn : cnt2 < 1000000000) (h1 : DoK now cnt kb kl kr c r did cnt' kb' kl' kr') (h2 : DoR now2 cnt2 bs ls rs c s did2 cnt3 bs' ls' rs') :
    (r = s ∧ did = did2) ∧ LSt idx now cnt' kb' kl' kr' idx2 now2 cnt3 bs' ls' rs' ∧ cnt3 ≤ cnt2 + 1 ∧ r.wf := by
  obtain ⟨rfl, rfl, rfl, ho, hr⟩ := h
  obtain ⟨q1, q2, q3, q4, q5, q6, q7⟩ := zEE ho hr hc hn h1 h2
  exact ⟨⟨q1, q2⟩, ⟨rfl, rfl, q3, q5, q4⟩, q7, q6⟩
end
section
variable {now : Int} {cnt : Nat} {kb : List (ByteArray × Int)} {kl : List (Nat × LeaD)} {kr : List (Nat × RepD)}
theorem LSt.kl0 {idx : Nat} {idx2 : Nat} {now2 : Int} {cnt2 : Nat} {bs : List BudD} {ls : List LeaD} {rs : List RepD} (h : LSt idx now cnt kb kl kr idx2 now2 cnt2 bs ls rs) (hc : cnt2 ≤ 1000000000) : ∀ i l, zf i kl = some l → l.id < 18446744073709551616 ∧ yx l.amount ∧ yx l.until_ := zLt h.h.q hc h.r.q
end
def cmd1 : CmdD := { session := 1, seq := 1, op := 1, key := (⟨#[107]⟩ : ByteArray), amount := 5, span := 0, lease := 0 }
theorem zIE : cmd1.wf := ⟨by decide, by decide, by decide, by unfold yx; decide, by unfold yx; decide, by decide⟩
structure RL where
  now : Int
  cnt : Nat
  bs : List BudD
  ls : List LeaD
  rs : List RepD
def xw (ls : List LeaD) (i s : Nat) : Nat := ls.findIdx fun l => decide (l.id = i ∧ l.session = s)
theorem xm {ls : List LeaD} {i s : Nat} (h : xw ls i s < ls.length) : (zG ls (xw ls i s)).id = i ∧ (zG ls (xw ls i s)).session = s := by
  have h1 := List.findIdx_getElem (w := h)
  rw [kc (List.getElem?_eq_getElem h)]
  exact of_decide_eq_true h1
theorem zBo {ls : List LeaD} {i s : Nat} (h : ¬ xw ls i s < ls.length) : ∀ l ∈ ls, ¬ (l.id = i ∧ l.session = s) := fun l hl hq =>
  h (List.findIdx_lt_length.2 ⟨l, hl, decide_eq_true hq⟩)
theorem zKQ {ls : List LeaD} (h : (ls.map (·.id)).Pairwise (· < ·)) {j k : Nat} (hj : j < ls.length) (hk : k < ls.length) (e : (zG ls j).id = (zG ls k).id) : j = k := by
  have h1 := kc (List.getElem?_eq_getElem hj)
  have h2 := kc (List.getElem?_eq_getElem hk)
  rcases Nat.lt_trichotomy j k with q | q | q
  · have := List.pairwise_iff_getElem.1 h j k (by rw [List.length_map]; exact hj) (by rw [List.length_map]; exact hk) q
    rw [List.getElem_map, List.getElem_map, ← h1, ← h2] at this; omega
  · exact q
  · have := List.pairwise_iff_getElem.1 h k j (by rw [List.length_map]; exact hk) (by rw [List.length_map]; exact hj) q
    rw [List.getElem_map, List.getElem_map, ← h1, ← h2] at this; omega
theorem zDc {ls : List LeaD} (h : (ls.map (·.id)).Pairwise (· < ·)) {i s k : Nat} (hk : k < ls.length) (h1 : (zG ls k).id = i) (h2 : (zG ls k).session = s) : xw ls i s = k := by
  have hl : xw ls i s < ls.length := List.findIdx_lt_length.2 ⟨zG ls k, yR hk, decide_eq_true ⟨h1, h2⟩⟩
  exact zKQ h hl hk ((xm hl).1.trans h1.symm)
theorem zCX {ls : List LeaD} {i s : Nat} (h : ∀ l ∈ ls, ¬ (l.id = i ∧ l.session = s)) : ¬ xw ls i s < ls.length := fun q => h _ (yR q) (xm q)
def jA (now : Int) (bs : List BudD) (ls : List LeaD) (s i : Nat) (sp : Int) : (LeaD × Int) × List LeaD :=
  if ¬ yM sp then ((LeaD.zero, 1), ls) else if ¬ xw ls i s < ls.length then ((LeaD.zero, 17), ls)
  else if yO (zG ls (xw ls i s)).key bs < yF (zG ls (xw ls i s)).key ls then ((LeaD.zero, 16), ls)
  else ((yy (zG ls (xw ls i s)) (now + sp), 0), ls.set (xw ls i s) (yy (zG ls (xw ls i s)) (now + sp)))
theorem zFm (now : Int) (bs : List BudD) (ls : List LeaD) (s i : Nat) (sp : Int) : zA0 now bs ls s i sp (jA now bs ls s i sp).1.1 (jA now bs ls s i sp).1.2 (jA now bs ls s i sp).2 := by
  unfold jA
  split
  · rename_i h; exact .inl ⟨h, rfl, rfl, rfl⟩
  · rename_i h
    have h := Decidable.not_not.1 h
    split
    · rename_i h2; exact .inr (.inl ⟨h, zBo h2, rfl, rfl, rfl⟩)
    · rename_i h2
      have h2 := Decidable.not_not.1 h2
      refine .inr (.inr ⟨h, _, h2, (xm h2).1, (xm h2).2, ?_⟩)
      split
      · rename_i h3; exact .inl ⟨h3, rfl, rfl, rfl⟩
      · rename_i h3; exact .inr ⟨by omega, rfl, rfl, rfl⟩
theorem zFU {now : Int} {bs : List BudD} {ls ls' : List LeaD} {s i : Nat} {sp : Int} {x : LeaD} {e : Int} (hu : (ls.map (·.id)).Pairwise (· < ·)) (h : zA0 now bs ls s i sp x e ls') : jA now bs ls s i sp = ((x, e), ls') := by
  unfold jA
  rcases h with ⟨h, rfl, rfl, rfl⟩ | ⟨h, h2, rfl, rfl, rfl⟩ | ⟨h, k, hk, h1, h2, h3⟩
  · rw [if_pos h]
  · rw [if_neg (fun q => q h), if_pos (zCX h2)]
  · rw [if_neg (fun q => q h), zDc hu hk h1 h2, if_neg (fun q => q hk)]
    rcases h3 with ⟨h3, rfl, rfl, rfl⟩ | ⟨h3, rfl, rfl, rfl⟩
    · rw [if_pos h3]
    · rw [if_neg (by omega)]
def zAd (ls : List LeaD) (s i : Nat) : (LeaD × Int) × List LeaD :=
  if ¬ xw ls i s < ls.length then ((LeaD.zero, 17), ls) else ((zG ls (xw ls i s), 0), ls.take (xw ls i s) ++ ls.drop (xw ls i s + 1))
theorem zGK (ls : List LeaD) (s i : Nat) : zCf ls s i (zAd ls s i).1.1 (zAd ls s i).1.2 (zAd ls s i).2 := by
  unfold zAd
  split
  · rename_i h2; exact .inl ⟨zBo h2, rfl, rfl, rfl⟩
  · rename_i h2
    have h2 := Decidable.not_not.1 h2
    exact .inr ⟨_, h2, (xm h2).1, (xm h2).2, rfl, rfl, rfl⟩
theorem zF7 {ls ls' : List LeaD} {s i : Nat} {x : LeaD} {e : Int} (hu : (ls.map (·.id)).Pairwise (· < ·)) (h : zCf ls s i x e ls') : zAd ls s i = ((x, e), ls') := by
  unfold zAd
  rcases h with ⟨h, rfl, rfl, rfl⟩ | ⟨k, hk, h1, h2, rfl, rfl, rfl⟩
  · rw [if_pos (zCX h)]
  · rw [zDc hu hk h1 h2, if_neg (fun q => q hk)]
def jn (t : RL) (c : CmdD) : RepD × RL :=
  if c.op = 1 then (zFi c (zAA c.key c.amount t.bs) (yF c.key t.ls), { t with bs := zAs c.key c.amount t.bs })
  else if c.op = 2 then
    (xv c (kL (xG c.session c.key c.amount c.span t.bs t.ls) t.cnt c.session c.key c.amount (t.now + c.span)) (xG c.session c.key c.amount c.span t.bs t.ls),
      { t with cnt := zAU (xG c.session c.key c.amount c.span t.bs t.ls) t.cnt, ls := zBD (xG c.session c.key c.amount c.span t.bs t.ls) (kL (xG c.session c.key c.amount c.span t.bs t.ls) t.cnt c.session c.key c.amount (t.now + c.span)) t.ls })
  else if c.op = 3 then (xv c (jA t.now t.bs t.ls c.session c.lease c.span).1.1 (jA t.now t.bs t.ls c.session c.lease c.span).1.2, { t with ls := (jA t.now t.bs t.ls c.session c.lease c.span).2 })
  else if c.op = 4 then (xv c (zAd t.ls c.session c.lease).1.1 (zAd t.ls c.session c.lease).1.2, { t with ls := (zAd t.ls c.session c.lease).2 })
  else (xj c 0, t)
theorem zE4 (t : RL) (c : CmdD) : zFn t.now t.cnt t.bs t.ls c (jn t c).1 (jn t c).2.cnt (jn t c).2.bs (jn t c).2.ls ∧ (jn t c).2.now = t.now ∧ (jn t c).2.rs = t.rs := by
  unfold jn
  by_cases h1 : c.op = 1
  · rw [if_pos h1]; exact ⟨.inl ⟨h1, rfl, rfl, rfl, rfl⟩, rfl, rfl⟩
  · rw [if_neg h1]
    by_cases h2 : c.op = 2
    · rw [if_pos h2]; exact ⟨.inr (.inl ⟨h2, _, _, rfl, rfl, rfl, rfl, rfl, rfl⟩), rfl, rfl⟩
    · rw [if_neg h2]
      by_cases h3 : c.op = 3
      · rw [if_pos h3]; exact ⟨.inr (.inr (.inl ⟨h3, _, _, zFm _ _ _ _ _ _, rfl, rfl, rfl⟩)), rfl, rfl⟩
      · rw [if_neg h3]
        by_cases h4 : c.op = 4
        · rw [if_pos h4]; exact ⟨.inr (.inr (.inr (.inl ⟨h4, _, _, zGK _ _ _, rfl, rfl, rfl⟩))), rfl, rfl⟩
        · rw [if_neg h4]; exact ⟨.inr (.inr (.inr (.inr ⟨⟨⟨h1, h2⟩, h3, h4⟩, rfl, rfl, rfl, rfl⟩))), rfl, rfl⟩
theorem zIm {t : RL} {c : CmdD} {r : RepD} {cnt' : Nat} {bs' : List BudD} {ls' : List LeaD} (hu : (t.ls.map (·.id)).Pairwise (· < ·)) (h : zFn t.now t.cnt t.bs t.ls c r cnt' bs' ls') : jn t c = (r, ⟨t.now, cnt', bs', ls', t.rs⟩) := by
  unfold jn
  rcases h with ⟨o, rfl, rfl, rfl, rfl⟩ | ⟨o, x, e, rfl, rfl, rfl, rfl, rfl, rfl⟩ | ⟨o, x, e, k, rfl, rfl, rfl⟩ | ⟨o, x, e, k, rfl, rfl, rfl⟩ | ⟨o, rfl, rfl, rfl, rfl⟩
  · rw [if_pos o]
  · rw [if_neg (by omega), if_pos o]
  · rw [if_neg (by omega), if_neg (by omega), if_pos o, zFU hu k]
  · rw [if_neg (by omega), if_neg (by omega), if_neg (by omega), if_pos o, zF7 hu k]
  · rw [if_neg o.1.1, if_neg o.1.2, if_neg o.2.1, if_neg o.2.2]
def zEQ (t : RL) (c : CmdD) : Option RepD :=
  if ¬ c.ok then some (xj c 2) else if c.session = 0 then some (xj c (if c.op = 5 then 0 else 1)) else if c.seq = 0 then some (xj c 18)
  else if (zu (KR t.rs) c.session c.seq).2 = 8 then none
  else some (if (zu (KR t.rs) c.session c.seq).2 = 0 then (zu (KR t.rs) c.session c.seq).1 else xj c (if (zu (KR t.rs) c.session c.seq).2 = 13 then 18 else (zu (KR t.rs) c.session c.seq).2))
theorem ku {t : RL} {c : CmdD} {r : RepD} (h : xP c (zu (KR t.rs) c.session c.seq) r) : zEQ t c = some r := by
  unfold zEQ
  rcases h with ⟨h, rfl⟩ | ⟨h1, h2, rfl⟩ | ⟨h1, h2, h3, rfl⟩ | ⟨⟨h1, h2, h3⟩, h4, rfl⟩
  · rw [if_pos h]
  · rw [if_neg (fun q => q h1), if_pos h2]
  · rw [if_neg (fun q => q h1), if_neg h2, if_pos h3]
  · rw [if_neg (fun q => q h1), if_neg h2, if_neg h3, if_neg h4]
theorem zB9 {t : RL} {c : CmdD} (h : GoR c (zu (KR t.rs) c.session c.seq)) : zEQ t c = none := by
  unfold zEQ
  rw [if_neg (fun q => q h.1.1), if_neg h.1.2.1, if_neg h.1.2.2, if_pos h.2]
theorem zCg (t : RL) (c : CmdD) : (∃ r, zEQ t c = some r ∧ xP c (zu (KR t.rs) c.session c.seq) r) ∨ (zEQ t c = none ∧ GoR c (zu (KR t.rs) c.session c.seq)) := by
  by_cases h1 : c.ok
  · by_cases h2 : c.session = 0
    · have h : xP c (zu (KR t.rs) c.session c.seq) (xj c (if c.op = 5 then 0 else 1)) := .inr (.inl ⟨h1, h2, rfl⟩)
      exact .inl ⟨_, ku h, h⟩
    · by_cases h3 : c.seq = 0
      · have h : xP c (zu (KR t.rs) c.session c.seq) (xj c 18) := .inr (.inr (.inl ⟨h1, h2, h3, rfl⟩))
        exact .inl ⟨_, ku h, h⟩
      · by_cases h4 : (zu (KR t.rs) c.session c.seq).2 = 8
        · exact .inr ⟨zB9 ⟨⟨h1, h2, h3⟩, h4⟩, ⟨h1, h2, h3⟩, h4⟩
        · have h : xP c (zu (KR t.rs) c.session c.seq) _ := .inr (.inr (.inr ⟨⟨h1, h2, h3⟩, h4, rfl⟩))
          exact .inl ⟨_, ku h, h⟩
  · have h : xP c (zu (KR t.rs) c.session c.seq) (xj c 2) := .inl ⟨h1, rfl⟩
    exact .inl ⟨_, ku h, h⟩
def doF (t : RL) (c : CmdD) : (RepD × Bool) × RL :=
  match zEQ t c with
  | some r => ((r, false), t)
  | none => (((jn t c).1, true), { (jn t c).2 with rs := kO t.rs (jn t c).1 })
theorem zD8 (t : RL) (c : CmdD) : DoR t.now t.cnt t.bs t.ls t.rs c (doF t c).1.1 (doF t c).1.2 (doF t c).2.cnt (doF t c).2.bs (doF t c).2.ls (doF t c).2.rs ∧ (doF t c).2.now = t.now := by
  unfold doF
  rcases zCg t c with ⟨r, h, h2⟩ | ⟨h, h2⟩
  · rw [h]; exact ⟨.inl ⟨h2, rfl, rfl, rfl, rfl, rfl⟩, rfl⟩
  · rw [h]; exact ⟨.inr ⟨h2, (zE4 t c).1, rfl, rfl⟩, (zE4 t c).2.1⟩
theorem zJr {t : RL} {c : CmdD} {r : RepD} {did : Bool} {cnt' : Nat} {bs' : List BudD} {ls' : List LeaD} {rs' : List RepD} (hu : (t.ls.map (·.id)).Pairwise (· < ·)) (h : DoR t.now t.cnt t.bs t.ls t.rs c r did cnt' bs' ls' rs') : doF t c = ((r, did), ⟨t.now, cnt', bs', ls', rs'⟩) := by
  unfold doF
  rcases h with ⟨h, rfl, rfl, rfl, rfl, rfl⟩ | ⟨h, k, rfl, rfl⟩
  · rw [ku h]
  · rw [zB9 h, zIm hu k]
end Go.Proofs.YtcdiehplbmkmeaaGreat
