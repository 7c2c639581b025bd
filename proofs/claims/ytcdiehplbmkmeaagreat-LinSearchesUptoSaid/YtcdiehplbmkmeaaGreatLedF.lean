import Derived.Test.YtcdiehplbmkmeaaGreatLedQ
set_option linter.unusedSectionVars false
set_option linter.unusedSimpArgs false
set_option linter.unusedVariables false
set_option maxRecDepth 10000
namespace Go.Proofs.YtcdiehplbmkmeaaGreat
open Go Go.Sc Go.Proofs
structure RL where
  now : Int
  cnt : Nat
  bs : List BudD
  ls : List LeaD
  rs : List RepD
def xu (ls : List LeaD) (i s : Nat) : Nat := ls.findIdx fun l => decide (l.id = i ∧ l.session = s)
theorem xj {ls : List LeaD} {i s : Nat} (h : xu ls i s < ls.length) : (zJ ls (xu ls i s)).id = i ∧ (zJ ls (xu ls i s)).session = s := by
  have h1 := List.findIdx_getElem (w := h)
  rw [j8 (List.getElem?_eq_getElem h)]
  exact of_decide_eq_true h1
theorem zBP {ls : List LeaD} {i s : Nat} (h : ¬ xu ls i s < ls.length) : ∀ l ∈ ls, ¬ (l.id = i ∧ l.session = s) := fun l hl hq =>
  h (List.findIdx_lt_length.2 ⟨l, hl, decide_eq_true hq⟩)
theorem zJk {ls : List LeaD} (h : (ls.map (·.id)).Pairwise (· < ·)) {j k : Nat} (hj : j < ls.length) (hk : k < ls.length) (e : (zJ ls j).id = (zJ ls k).id) : j = k := by
  have h1 := j8 (List.getElem?_eq_getElem hj)
  have h2 := j8 (List.getElem?_eq_getElem hk)
  rcases Nat.lt_trichotomy j k with q | q | q
  · have := List.pairwise_iff_getElem.1 h j k (by rw [List.length_map]; exact hj) (by rw [List.length_map]; exact hk) q
    rw [List.getElem_map, List.getElem_map, ← h1, ← h2] at this; omega
  · exact q
  · have := List.pairwise_iff_getElem.1 h k j (by rw [List.length_map]; exact hk) (by rw [List.length_map]; exact hj) q
    rw [List.getElem_map, List.getElem_map, ← h1, ← h2] at this; omega
theorem zDP {ls : List LeaD} (h : (ls.map (·.id)).Pairwise (· < ·)) {i s k : Nat} (hk : k < ls.length) (h1 : (zJ ls k).id = i) (h2 : (zJ ls k).session = s) : xu ls i s = k := by
  have hl : xu ls i s < ls.length := List.findIdx_lt_length.2 ⟨zJ ls k, yR hk, decide_eq_true ⟨h1, h2⟩⟩
  exact zJk h hl hk ((xj hl).1.trans h1.symm)
theorem zCK {ls : List LeaD} {i s : Nat} (h : ∀ l ∈ ls, ¬ (l.id = i ∧ l.session = s)) : ¬ xu ls i s < ls.length := fun q => h _ (yR q) (xj q)
def jC (now : Int) (bs : List BudD) (ls : List LeaD) (s i : Nat) (sp : Int) : (LeaD × Int) × List LeaD :=
  if ¬ yV sp then ((LeaD.zero, 1), ls) else if ¬ xu ls i s < ls.length then ((LeaD.zero, 17), ls)
  else if yN (zJ ls (xu ls i s)).key bs < yD (zJ ls (xu ls i s)).key ls then ((LeaD.zero, 16), ls)
  else ((yz (zJ ls (xu ls i s)) (now + sp), 0), ls.set (xu ls i s) (yz (zJ ls (xu ls i s)) (now + sp)))
theorem zFG (now : Int) (bs : List BudD) (ls : List LeaD) (s i : Nat) (sp : Int) : zAp now bs ls s i sp (jC now bs ls s i sp).1.1 (jC now bs ls s i sp).1.2 (jC now bs ls s i sp).2 := by
  unfold jC
  split
  · rename_i h; exact .inl ⟨h, rfl, rfl, rfl⟩
  · rename_i h
    have h := Decidable.not_not.1 h
    split
    · rename_i h2; exact .inr (.inl ⟨h, zBP h2, rfl, rfl, rfl⟩)
    · rename_i h2
      have h2 := Decidable.not_not.1 h2
      refine .inr (.inr ⟨h, _, h2, (xj h2).1, (xj h2).2, ?_⟩)
      split
      · rename_i h3; exact .inl ⟨h3, rfl, rfl, rfl⟩
      · rename_i h3; exact .inr ⟨by omega, rfl, rfl, rfl⟩
theorem zFg {now : Int} {bs : List BudD} {ls ls' : List LeaD} {s i : Nat} {sp : Int} {x : LeaD} {e : Int} (hu : (ls.map (·.id)).Pairwise (· < ·)) (h : zAp now bs ls s i sp x e ls') : jC now bs ls s i sp = ((x, e), ls') := by
  unfold jC
  rcases h with ⟨h, rfl, rfl, rfl⟩ | ⟨h, h2, rfl, rfl, rfl⟩ | ⟨h, k, hk, h1, h2, h3⟩
  · rw [if_pos h]
  · rw [if_neg (fun q => q h), if_pos (zCK h2)]
  · rw [if_neg (fun q => q h), zDP hu hk h1 h2, if_neg (fun q => q hk)]
    rcases h3 with ⟨h3, rfl, rfl, rfl⟩ | ⟨h3, rfl, rfl, rfl⟩
    · rw [if_pos h3]
    · rw [if_neg (by omega)]
def zAd (ls : List LeaD) (s i : Nat) : (LeaD × Int) × List LeaD :=
  if ¬ xu ls i s < ls.length then ((LeaD.zero, 17), ls) else ((zJ ls (xu ls i s), 0), ls.take (xu ls i s) ++ ls.drop (xu ls i s + 1))
theorem zGN (ls : List LeaD) (s i : Nat) : zB8 ls s i (zAd ls s i).1.1 (zAd ls s i).1.2 (zAd ls s i).2 := by
  unfold zAd
  split
  · rename_i h2; exact .inl ⟨zBP h2, rfl, rfl, rfl⟩
  · rename_i h2
    have h2 := Decidable.not_not.1 h2
    exact .inr ⟨_, h2, (xj h2).1, (xj h2).2, rfl, rfl, rfl⟩
theorem zGw {ls ls' : List LeaD} {s i : Nat} {x : LeaD} {e : Int} (hu : (ls.map (·.id)).Pairwise (· < ·)) (h : zB8 ls s i x e ls') : zAd ls s i = ((x, e), ls') := by
  unfold zAd
  rcases h with ⟨h, rfl, rfl, rfl⟩ | ⟨k, hk, h1, h2, rfl, rfl, rfl⟩
  · rw [if_pos (zCK h)]
  · rw [zDP hu hk h1 h2, if_neg (fun q => q hk)]
def zAM (t : RL) (c : CmdD) : RepD × RL :=
  if c.op = 1 then (zFN c (zAJ c.key c.amount t.bs) (yD c.key t.ls), { t with bs := zAk c.key c.amount t.bs })
  else if c.op = 2 then
    (kC c (kN (xI c.session c.key c.amount c.span t.bs t.ls) t.cnt c.session c.key c.amount (t.now + c.span)) (xI c.session c.key c.amount c.span t.bs t.ls),
      { t with cnt := zAX (xI c.session c.key c.amount c.span t.bs t.ls) t.cnt, ls := zA0 (xI c.session c.key c.amount c.span t.bs t.ls) (kN (xI c.session c.key c.amount c.span t.bs t.ls) t.cnt c.session c.key c.amount (t.now + c.span)) t.ls })
  else if c.op = 3 then (kC c (jC t.now t.bs t.ls c.session c.lease c.span).1.1 (jC t.now t.bs t.ls c.session c.lease c.span).1.2, { t with ls := (jC t.now t.bs t.ls c.session c.lease c.span).2 })
  else if c.op = 4 then (kC c (zAd t.ls c.session c.lease).1.1 (zAd t.ls c.session c.lease).1.2, { t with ls := (zAd t.ls c.session c.lease).2 })
  else (xc c 0, t)
theorem zEl (t : RL) (c : CmdD) : zFO t.now t.cnt t.bs t.ls c (zAM t c).1 (zAM t c).2.cnt (zAM t c).2.bs (zAM t c).2.ls ∧ (zAM t c).2.now = t.now ∧ (zAM t c).2.rs = t.rs := by
  unfold zAM
  by_cases h1 : c.op = 1
  · rw [if_pos h1]; exact ⟨.inl ⟨h1, rfl, rfl, rfl, rfl⟩, rfl, rfl⟩
  · rw [if_neg h1]
    by_cases h2 : c.op = 2
    · rw [if_pos h2]; exact ⟨.inr (.inl ⟨h2, _, _, rfl, rfl, rfl, rfl, rfl, rfl⟩), rfl, rfl⟩
    · rw [if_neg h2]
      by_cases h3 : c.op = 3
      · rw [if_pos h3]; exact ⟨.inr (.inr (.inl ⟨h3, _, _, zFG _ _ _ _ _ _, rfl, rfl, rfl⟩)), rfl, rfl⟩
      · rw [if_neg h3]
        by_cases h4 : c.op = 4
        · rw [if_pos h4]; exact ⟨.inr (.inr (.inr (.inl ⟨h4, _, _, zGN _ _ _, rfl, rfl, rfl⟩))), rfl, rfl⟩
        · rw [if_neg h4]; exact ⟨.inr (.inr (.inr (.inr ⟨⟨⟨h1, h2⟩, h3, h4⟩, rfl, rfl, rfl, rfl⟩))), rfl, rfl⟩
theorem zIp {t : RL} {c : CmdD} {r : RepD} {cnt' : Nat} {bs' : List BudD} {ls' : List LeaD} (hu : (t.ls.map (·.id)).Pairwise (· < ·)) (h : zFO t.now t.cnt t.bs t.ls c r cnt' bs' ls') : zAM t c = (r, ⟨t.now, cnt', bs', ls', t.rs⟩) := by
  unfold zAM
  rcases h with ⟨o, rfl, rfl, rfl, rfl⟩ | ⟨o, x, e, rfl, rfl, rfl, rfl, rfl, rfl⟩ | ⟨o, x, e, k, rfl, rfl, rfl⟩ | ⟨o, x, e, k, rfl, rfl, rfl⟩ | ⟨o, rfl, rfl, rfl, rfl⟩
  · rw [if_pos o]
  · rw [if_neg (by omega), if_pos o]
  · rw [if_neg (by omega), if_neg (by omega), if_pos o, zFg hu k]
  · rw [if_neg (by omega), if_neg (by omega), if_neg (by omega), if_pos o, zGw hu k]
  · rw [if_neg o.1.1, if_neg o.1.2, if_neg o.2.1, if_neg o.2.2]
def zEA (t : RL) (c : CmdD) : Option RepD :=
  if ¬ c.ok then some (xc c 2) else if c.session = 0 then some (xc c (if c.op = 5 then 0 else 1)) else if c.seq = 0 then some (xc c 18)
  else if (zw (KR t.rs) c.session c.seq).2 = 8 then none
  else some (if (zw (KR t.rs) c.session c.seq).2 = 0 then (zw (KR t.rs) c.session c.seq).1 else xc c (if (zw (KR t.rs) c.session c.seq).2 = 13 then 18 else (zw (KR t.rs) c.session c.seq).2))
theorem kd {t : RL} {c : CmdD} {r : RepD} (h : xN c (zw (KR t.rs) c.session c.seq) r) : zEA t c = some r := by
  unfold zEA
  rcases h with ⟨h, rfl⟩ | ⟨h1, h2, rfl⟩ | ⟨h1, h2, h3, rfl⟩ | ⟨⟨h1, h2, h3⟩, h4, rfl⟩
  · rw [if_pos h]
  · rw [if_neg (fun q => q h1), if_pos h2]
  · rw [if_neg (fun q => q h1), if_neg h2, if_pos h3]
  · rw [if_neg (fun q => q h1), if_neg h2, if_neg h3, if_neg h4]
theorem zCL {t : RL} {c : CmdD} (h : GoR c (zw (KR t.rs) c.session c.seq)) : zEA t c = none := by
  unfold zEA
  rw [if_neg (fun q => q h.1.1), if_neg h.1.2.1, if_neg h.1.2.2, if_pos h.2]
theorem zEY (t : RL) (c : CmdD) : (∃ r, zEA t c = some r ∧ xN c (zw (KR t.rs) c.session c.seq) r) ∨ (zEA t c = none ∧ GoR c (zw (KR t.rs) c.session c.seq)) := by
  by_cases h1 : c.ok
  · by_cases h2 : c.session = 0
    · have h : xN c (zw (KR t.rs) c.session c.seq) (xc c (if c.op = 5 then 0 else 1)) := .inr (.inl ⟨h1, h2, rfl⟩)
      exact .inl ⟨_, kd h, h⟩
    · by_cases h3 : c.seq = 0
      · have h : xN c (zw (KR t.rs) c.session c.seq) (xc c 18) := .inr (.inr (.inl ⟨h1, h2, h3, rfl⟩))
        exact .inl ⟨_, kd h, h⟩
      · by_cases h4 : (zw (KR t.rs) c.session c.seq).2 = 8
        · exact .inr ⟨zCL ⟨⟨h1, h2, h3⟩, h4⟩, ⟨h1, h2, h3⟩, h4⟩
        · have h : xN c (zw (KR t.rs) c.session c.seq) _ := .inr (.inr (.inr ⟨⟨h1, h2, h3⟩, h4, rfl⟩))
          exact .inl ⟨_, kd h, h⟩
  · have h : xN c (zw (KR t.rs) c.session c.seq) (xc c 2) := .inl ⟨h1, rfl⟩
    exact .inl ⟨_, kd h, h⟩
def doF (t : RL) (c : CmdD) : (RepD × Bool) × RL :=
  match zEA t c with
  | some r => ((r, false), t)
  | none => (((zAM t c).1, true), { (zAM t c).2 with rs := kK t.rs (zAM t c).1 })
theorem zGc (t : RL) (c : CmdD) : DoR t.now t.cnt t.bs t.ls t.rs c (doF t c).1.1 (doF t c).1.2 (doF t c).2.cnt (doF t c).2.bs (doF t c).2.ls (doF t c).2.rs ∧ (doF t c).2.now = t.now := by
  unfold doF
  rcases zEY t c with ⟨r, h, h2⟩ | ⟨h, h2⟩
  · rw [h]; exact ⟨.inl ⟨h2, rfl, rfl, rfl, rfl, rfl⟩, rfl⟩
  · rw [h]; exact ⟨.inr ⟨h2, (zEl t c).1, rfl, rfl⟩, (zEl t c).2.1⟩
theorem zHZ {t : RL} {c : CmdD} {r : RepD} {did : Bool} {cnt' : Nat} {bs' : List BudD} {ls' : List LeaD} {rs' : List RepD} (hu : (t.ls.map (·.id)).Pairwise (· < ·)) (h : DoR t.now t.cnt t.bs t.ls t.rs c r did cnt' bs' ls' rs') : doF t c = ((r, did), ⟨t.now, cnt', bs', ls', rs'⟩) := by
  unfold doF
  rcases h with ⟨h, rfl, rfl, rfl, rfl, rfl⟩ | ⟨h, k, rfl, rfl⟩
  · rw [kd h]
  · rw [zCL h, zIp hu k]
end Go.Proofs.YtcdiehplbmkmeaaGreat
