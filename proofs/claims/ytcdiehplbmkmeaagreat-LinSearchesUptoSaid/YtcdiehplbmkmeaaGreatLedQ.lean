import Derived.Test.YtcdiehplbmkmeaaGreatLedP
set_option linter.unusedSectionVars false
set_option linter.unusedSimpArgs false
set_option linter.unusedVariables false
set_option maxRecDepth 10000
namespace Go.Proofs.YtcdiehplbmkmeaaGreat
open Go Go.Sc Go.Proofs
structure LSt (idx : Nat) (now : Int) (cnt : Nat) (kb : List (ByteArray × Int)) (kl : List (Nat × LeaD)) (kr : List (Nat × RepD)) (idx2 : Nat) (now2 : Int) (cnt2 : Nat) (bs : List BudD) (ls : List LeaD) (rs : List RepD) : Prop where
  i : idx = idx2
  n : now = now2
  c : cnt = cnt2
  h : LOkR now2 cnt2 bs ls rs
  r : LRel kb kl kr bs ls rs
theorem zKM {now : Int} {cnt : Nat} {bs : List BudD} {ls : List LeaD} {kb : List (ByteArray × Int)} {kl : List (Nat × LeaD)} (ho : QOk now cnt bs ls) (hc : cnt ≤ 1000000000) (hr : QRel kb kl bs ls) : ∀ i l, zf i kl = some l → l.id < 18446744073709551616 ∧ y6 l.amount ∧ y6 l.until_ := fun i l h => zCu ho hc l ((ho.look hr).1 h).1
section
variable {idx : Nat} {now : Int} {cnt : Nat} {kb : List (ByteArray × Int)} {kl : List (Nat × LeaD)} {kr : List (Nat × RepD)} {idx2 : Nat} {now2 : Int} {cnt2 : Nat} {bs : List BudD} {ls : List LeaD} {rs : List RepD}
theorem LSt.ht (h : LSt idx now cnt kb kl kr idx2 now2 cnt2 bs ls rs) : 0 ≤ now ∧ now ≤ 2305843009213693952 := by rw [h.n]; exact h.h.q.time
theorem LSt.nd (h : LSt idx now cnt kb kl kr idx2 now2 cnt2 bs ls rs) : KNd kl := h.h.q.knl h.r.q
theorem LSt.len (h : LSt idx now cnt kb kl kr idx2 now2 cnt2 bs ls rs) : kl.length ≤ 128 := by rw [h.r.q.llen]; exact h.h.q.llen
theorem LSt.lent (h : LSt idx now cnt kb kl kr idx2 now2 cnt2 bs ls rs) {d : Int} (hd : y6 d) (k : ByteArray) : 0 ≤ yE k (jD now d kl) ∧ yE k (jD now d kl) ≤ 9223372036854775807 := by
  rw [h.n, (h.r.q.pass d).lent]; exact (h.h.q.pass d hd).lent0 k
theorem LSt.lent1 (h : LSt idx now cnt kb kl kr idx2 now2 cnt2 bs ls rs) (k : ByteArray) : 0 ≤ yE k kl ∧ yE k kl ≤ 9223372036854775807 := by
  rw [h.r.q.lent]; exact h.h.q.lent0 k
theorem LSt.start : LSt 0 0 0 [] [] [] 0 0 0 [] [] [] := ⟨rfl, rfl, rfl, LOkR.start, LRel.start⟩
theorem LSt.do (h : LSt idx now cnt kb kl kr idx2 now2 cnt2 bs ls rs) {c : CmdD} {r s : RepD} {did did2 : Bool} {cnt' cnt3 : Nat} {kb' : List (ByteArray × Int)} {kl' : List (Nat × LeaD)} {kr' : List (Nat × RepD)} {bs' : List BudD} {ls' : List LeaD} {rs' : List RepD} (hc : c.wf) (hn : cnt2 < 1000000000) (h1 : DoK now cnt kb kl kr c r did cnt' kb' kl' kr') (h2 : DoR now2 cnt2 bs ls rs c s did2 cnt3 bs' ls' rs') :
    (r = s ∧ did = did2) ∧ LSt idx now cnt' kb' kl' kr' idx2 now2 cnt3 bs' ls' rs' ∧ cnt3 ≤ cnt2 + 1 ∧ r.wf := by
  obtain ⟨rfl, rfl, rfl, ho, hr⟩ := h
  obtain ⟨q1, q2, q3, q4, q5, q6, q7⟩ := zER ho hr hc hn h1 h2
  exact ⟨⟨q1, q2⟩, ⟨rfl, rfl, q3, q5, q4⟩, q7, q6⟩
end
section
variable {now : Int} {cnt : Nat} {kb : List (ByteArray × Int)} {kl : List (Nat × LeaD)} {kr : List (Nat × RepD)}
theorem LSt.kl0 {idx : Nat} {idx2 : Nat} {now2 : Int} {cnt2 : Nat} {bs : List BudD} {ls : List LeaD} {rs : List RepD} (h : LSt idx now cnt kb kl kr idx2 now2 cnt2 bs ls rs) (hc : cnt2 ≤ 1000000000) : ∀ i l, zf i kl = some l → l.id < 18446744073709551616 ∧ y6 l.amount ∧ y6 l.until_ := zKM h.h.q hc h.r.q
end
def cmd1 : CmdD := { session := 1, seq := 1, op := 1, key := (⟨#[107]⟩ : ByteArray), amount := 5, span := 0, lease := 0 }
theorem zIV : cmd1.wf := ⟨by decide, by decide, by decide, by unfold y6; decide, by unfold y6; decide, by decide⟩
end Go.Proofs.YtcdiehplbmkmeaaGreat
