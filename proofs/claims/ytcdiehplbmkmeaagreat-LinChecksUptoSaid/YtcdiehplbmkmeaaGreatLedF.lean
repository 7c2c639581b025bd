import Derived.Test.YtcdiehplbmkmeaaGreatLedQ
set_option linter.unusedSectionVars false
set_option linter.unusedSimpArgs false
set_option linter.unusedVariables false
set_option maxRecDepth 10000
namespace Go.Proofs.YtcdiehplbmkmeaaGreat
open Go Go.Sc Go.Proofs
structure RL where
  now : Int
  cnt : Nat
  bs : List BudD
  ls : List LeaD
  rs : List RepD
def xr (ls : List LeaD) (i s : Nat) : Nat := ls.findIdx fun l => decide (l.id = i ∧ l.session = s)
theorem xm {ls : List LeaD} {i s : Nat} (h : xr ls i s < ls.length) : (zJ ls (xr ls i s)).id = i ∧ (zJ ls (xr ls i s)).session = s := by
  have h1 := List.findIdx_getElem (w := h)
  rw [jJ (List.getElem?_eq_getElem h)]
  exact of_decide_eq_true h1
theorem zBe {ls : List LeaD} {i s : Nat} (h : ¬ xr ls i s < ls.length) : ∀ l ∈ ls, ¬ (l.id = i ∧ l.session = s) := fun l hl hq =>
  h (List.findIdx_lt_length.2 ⟨l, hl, decide_eq_true hq⟩)
theorem zJK {ls : List LeaD} (h : (ls.map (·.id)).Pairwise (· < ·)) {j k : Nat} (hj : j < ls.length) (hk : k < ls.length) (e : (zJ ls j).id = (zJ ls k).id) : j = k := by
  have h1 := jJ (List.getElem?_eq_getElem hj)
  have h2 := jJ (List.getElem?_eq_getElem hk)
  rcases Nat.lt_trichotomy j k with q | q | q
  · have := List.pairwise_iff_getElem.1 h j k (by rw [List.length_map]; exact hj) (by rw [List.length_map]; exact hk) q
    rw [List.getElem_map, List.getElem_map, ← h1, ← h2] at this; omega
  · exact q
  · have := List.pairwise_iff_getElem.1 h k j (by rw [List.length_map]; exact hk) (by rw [List.length_map]; exact hj) q
    rw [List.getElem_map, List.getElem_map, ← h1, ← h2] at this; omega
theorem zC3 {ls : List LeaD} (h : (ls.map (·.id)).Pairwise (· < ·)) {i s k : Nat} (hk : k < ls.length) (h1 : (zJ ls k).id = i) (h2 : (zJ ls k).session = s) : xr ls i s = k := by
  have hl : xr ls i s < ls.length := List.findIdx_lt_length.2 ⟨zJ ls k, yK hk, decide_eq_true ⟨h1, h2⟩⟩
  exact zJK h hl hk ((xm hl).1.trans h1.symm)
theorem zB3 {ls : List LeaD} {i s : Nat} (h : ∀ l ∈ ls, ¬ (l.id = i ∧ l.session = s)) : ¬ xr ls i s < ls.length := fun q => h _ (yK q) (xm q)
def k6 (now : Int) (bs : List BudD) (ls : List LeaD) (s i : Nat) (sp : Int) : (LeaD × Int) × List LeaD :=
  if ¬ yX sp then ((LeaD.zero, 1), ls) else if ¬ xr ls i s < ls.length then ((LeaD.zero, 17), ls)
  else if yN (zJ ls (xr ls i s)).key bs < yC (zJ ls (xr ls i s)).key ls then ((LeaD.zero, 16), ls)
  else ((yw (zJ ls (xr ls i s)) (now + sp), 0), ls.set (xr ls i s) (yw (zJ ls (xr ls i s)) (now + sp)))
theorem zE9 (now : Int) (bs : List BudD) (ls : List LeaD) (s i : Nat) (sp : Int) : zAt now bs ls s i sp (k6 now bs ls s i sp).1.1 (k6 now bs ls s i sp).1.2 (k6 now bs ls s i sp).2 := by
  unfold k6
  split
  · rename_i h; exact .inl ⟨h, rfl, rfl, rfl⟩
  · rename_i h
    have h := Decidable.not_not.1 h
    split
    · rename_i h2; exact .inr (.inl ⟨h, zBe h2, rfl, rfl, rfl⟩)
    · rename_i h2
      have h2 := Decidable.not_not.1 h2
      refine .inr (.inr ⟨h, _, h2, (xm h2).1, (xm h2).2, ?_⟩)
      split
      · rename_i h3; exact .inl ⟨h3, rfl, rfl, rfl⟩
      · rename_i h3; exact .inr ⟨by omega, rfl, rfl, rfl⟩
theorem zFS {now : Int} {bs : List BudD} {ls ls' : List LeaD} {s i : Nat} {sp : Int} {x : LeaD} {e : Int} (hu : (ls.map (·.id)).Pairwise (· < ·)) (h : zAt now bs ls s i sp x e ls') : k6 now bs ls s i sp = ((x, e), ls') := by
  unfold k6
  rcases h with ⟨h, rfl, rfl, rfl⟩ | ⟨h, h2, rfl, rfl, rfl⟩ | ⟨h, k, hk, h1, h2, h3⟩
  · rw [if_pos h]
  · rw [if_neg (fun q => q h), if_pos (zB3 h2)]
  · rw [if_neg (fun q => q h), zC3 hu hk h1 h2, if_neg (fun q => q hk)]
    rcases h3 with ⟨h3, rfl, rfl, rfl⟩ | ⟨h3, rfl, rfl, rfl⟩
    · rw [if_pos h3]
    · rw [if_neg (by omega)]
def zAS (ls : List LeaD) (s i : Nat) : (LeaD × Int) × List LeaD :=
  if ¬ xr ls i s < ls.length then ((LeaD.zero, 17), ls) else ((zJ ls (xr ls i s), 0), ls.take (xr ls i s) ++ ls.drop (xr ls i s + 1))
theorem zF6 (ls : List LeaD) (s i : Nat) : zCO ls s i (zAS ls s i).1.1 (zAS ls s i).1.2 (zAS ls s i).2 := by
  unfold zAS
  split
  · rename_i h2; exact .inl ⟨zBe h2, rfl, rfl, rfl⟩
  · rename_i h2
    have h2 := Decidable.not_not.1 h2
    exact .inr ⟨_, h2, (xm h2).1, (xm h2).2, rfl, rfl, rfl⟩
theorem zHY {ls ls' : List LeaD} {s i : Nat} {x : LeaD} {e : Int} (hu : (ls.map (·.id)).Pairwise (· < ·)) (h : zCO ls s i x e ls') : zAS ls s i = ((x, e), ls') := by
  unfold zAS
  rcases h with ⟨h, rfl, rfl, rfl⟩ | ⟨k, hk, h1, h2, rfl, rfl, rfl⟩
  · rw [if_pos (zB3 h)]
  · rw [zC3 hu hk h1 h2, if_neg (fun q => q hk)]
def zAI (t : RL) (c : CmdD) : RepD × RL :=
  if c.op = 1 then (zFX c (zAB c.key c.amount t.bs) (yC c.key t.ls), { t with bs := zAu c.key c.amount t.bs })
  else if c.op = 2 then
    (kE c (kK (xD c.session c.key c.amount c.span t.bs t.ls) t.cnt c.session c.key c.amount (t.now + c.span)) (xD c.session c.key c.amount c.span t.bs t.ls),
      { t with cnt := zAT (xD c.session c.key c.amount c.span t.bs t.ls) t.cnt, ls := zA2 (xD c.session c.key c.amount c.span t.bs t.ls) (kK (xD c.session c.key c.amount c.span t.bs t.ls) t.cnt c.session c.key c.amount (t.now + c.span)) t.ls })
  else if c.op = 3 then (kE c (k6 t.now t.bs t.ls c.session c.lease c.span).1.1 (k6 t.now t.bs t.ls c.session c.lease c.span).1.2, { t with ls := (k6 t.now t.bs t.ls c.session c.lease c.span).2 })
  else if c.op = 4 then (kE c (zAS t.ls c.session c.lease).1.1 (zAS t.ls c.session c.lease).1.2, { t with ls := (zAS t.ls c.session c.lease).2 })
  else (xg c 0, t)
theorem zEb (t : RL) (c : CmdD) : zFb t.now t.cnt t.bs t.ls c (zAI t c).1 (zAI t c).2.cnt (zAI t c).2.bs (zAI t c).2.ls ∧ (zAI t c).2.now = t.now ∧ (zAI t c).2.rs = t.rs := by
  unfold zAI
  by_cases h1 : c.op = 1
  · rw [if_pos h1]; exact ⟨.inl ⟨h1, rfl, rfl, rfl, rfl⟩, rfl, rfl⟩
  · rw [if_neg h1]
    by_cases h2 : c.op = 2
    · rw [if_pos h2]; exact ⟨.inr (.inl ⟨h2, _, _, rfl, rfl, rfl, rfl, rfl, rfl⟩), rfl, rfl⟩
    · rw [if_neg h2]
      by_cases h3 : c.op = 3
      · rw [if_pos h3]; exact ⟨.inr (.inr (.inl ⟨h3, _, _, zE9 _ _ _ _ _ _, rfl, rfl, rfl⟩)), rfl, rfl⟩
      · rw [if_neg h3]
        by_cases h4 : c.op = 4
        · rw [if_pos h4]; exact ⟨.inr (.inr (.inr (.inl ⟨h4, _, _, zF6 _ _ _, rfl, rfl, rfl⟩))), rfl, rfl⟩
        · rw [if_neg h4]; exact ⟨.inr (.inr (.inr (.inr ⟨⟨⟨h1, h2⟩, h3, h4⟩, rfl, rfl, rfl, rfl⟩))), rfl, rfl⟩
theorem zHf {t : RL} {c : CmdD} {r : RepD} {cnt' : Nat} {bs' : List BudD} {ls' : List LeaD} (hu : (t.ls.map (·.id)).Pairwise (· < ·)) (h : zFb t.now t.cnt t.bs t.ls c r cnt' bs' ls') : zAI t c = (r, ⟨t.now, cnt', bs', ls', t.rs⟩) := by
  unfold zAI
  rcases h with ⟨o, rfl, rfl, rfl, rfl⟩ | ⟨o, x, e, rfl, rfl, rfl, rfl, rfl, rfl⟩ | ⟨o, x, e, k, rfl, rfl, rfl⟩ | ⟨o, x, e, k, rfl, rfl, rfl⟩ | ⟨o, rfl, rfl, rfl, rfl⟩
  · rw [if_pos o]
  · rw [if_neg (by omega), if_pos o]
  · rw [if_neg (by omega), if_neg (by omega), if_pos o, zFS hu k]
  · rw [if_neg (by omega), if_neg (by omega), if_neg (by omega), if_pos o, zHY hu k]
  · rw [if_neg o.1.1, if_neg o.1.2, if_neg o.2.1, if_neg o.2.2]
def zDv (t : RL) (c : CmdD) : Option RepD :=
  if ¬ c.ok then some (xg c 2) else if c.session = 0 then some (xg c (if c.op = 5 then 0 else 1)) else if c.seq = 0 then some (xg c 18)
  else if (zw (KR t.rs) c.session c.seq).2 = 8 then none
  else some (if (zw (KR t.rs) c.session c.seq).2 = 0 then (zw (KR t.rs) c.session c.seq).1 else xg c (if (zw (KR t.rs) c.session c.seq).2 = 13 then 18 else (zw (KR t.rs) c.session c.seq).2))
theorem kj {t : RL} {c : CmdD} {r : RepD} (h : xO c (zw (KR t.rs) c.session c.seq) r) : zDv t c = some r := by
  unfold zDv
  rcases h with ⟨h, rfl⟩ | ⟨h1, h2, rfl⟩ | ⟨h1, h2, h3, rfl⟩ | ⟨⟨h1, h2, h3⟩, h4, rfl⟩
  · rw [if_pos h]
  · rw [if_neg (fun q => q h1), if_pos h2]
  · rw [if_neg (fun q => q h1), if_neg h2, if_pos h3]
  · rw [if_neg (fun q => q h1), if_neg h2, if_neg h3, if_neg h4]
theorem zB4 {t : RL} {c : CmdD} (h : GoR c (zw (KR t.rs) c.session c.seq)) : zDv t c = none := by
  unfold zDv
  rw [if_neg (fun q => q h.1.1), if_neg h.1.2.1, if_neg h.1.2.2, if_pos h.2]
theorem zEk (t : RL) (c : CmdD) : (∃ r, zDv t c = some r ∧ xO c (zw (KR t.rs) c.session c.seq) r) ∨ (zDv t c = none ∧ GoR c (zw (KR t.rs) c.session c.seq)) := by
  by_cases h1 : c.ok
  · by_cases h2 : c.session = 0
    · have h : xO c (zw (KR t.rs) c.session c.seq) (xg c (if c.op = 5 then 0 else 1)) := .inr (.inl ⟨h1, h2, rfl⟩)
      exact .inl ⟨_, kj h, h⟩
    · by_cases h3 : c.seq = 0
      · have h : xO c (zw (KR t.rs) c.session c.seq) (xg c 18) := .inr (.inr (.inl ⟨h1, h2, h3, rfl⟩))
        exact .inl ⟨_, kj h, h⟩
      · by_cases h4 : (zw (KR t.rs) c.session c.seq).2 = 8
        · exact .inr ⟨zB4 ⟨⟨h1, h2, h3⟩, h4⟩, ⟨h1, h2, h3⟩, h4⟩
        · have h : xO c (zw (KR t.rs) c.session c.seq) _ := .inr (.inr (.inr ⟨⟨h1, h2, h3⟩, h4, rfl⟩))
          exact .inl ⟨_, kj h, h⟩
  · have h : xO c (zw (KR t.rs) c.session c.seq) (xg c 2) := .inl ⟨h1, rfl⟩
    exact .inl ⟨_, kj h, h⟩
def doF (t : RL) (c : CmdD) : (RepD × Bool) × RL :=
  match zDv t c with
  | some r => ((r, false), t)
  | none => (((zAI t c).1, true), { (zAI t c).2 with rs := kM t.rs (zAI t c).1 })
theorem zHS (t : RL) (c : CmdD) : DoR t.now t.cnt t.bs t.ls t.rs c (doF t c).1.1 (doF t c).1.2 (doF t c).2.cnt (doF t c).2.bs (doF t c).2.ls (doF t c).2.rs ∧ (doF t c).2.now = t.now := by
  unfold doF
  rcases zEk t c with ⟨r, h, h2⟩ | ⟨h, h2⟩
  · rw [h]; exact ⟨.inl ⟨h2, rfl, rfl, rfl, rfl, rfl⟩, rfl⟩
  · rw [h]; exact ⟨.inr ⟨h2, (zEb t c).1, rfl, rfl⟩, (zEb t c).2.1⟩
theorem zGZ {t : RL} {c : CmdD} {r : RepD} {did : Bool} {cnt' : Nat} {bs' : List BudD} {ls' : List LeaD} {rs' : List RepD} (hu : (t.ls.map (·.id)).Pairwise (· < ·)) (h : DoR t.now t.cnt t.bs t.ls t.rs c r did cnt' bs' ls' rs') : doF t c = ((r, did), ⟨t.now, cnt', bs', ls', rs'⟩) := by
  unfold doF
  rcases h with ⟨h, rfl, rfl, rfl, rfl, rfl⟩ | ⟨h, k, rfl, rfl⟩
  · rw [kj h]
  · rw [zB4 h, zHf hu k]
end Go.Proofs.YtcdiehplbmkmeaaGreat
