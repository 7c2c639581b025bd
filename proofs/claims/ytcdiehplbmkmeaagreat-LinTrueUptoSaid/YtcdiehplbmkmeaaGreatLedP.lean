import Derived.Test.YtcdiehplbmkmeaaGreatQuotaP
import Derived.Test.YtcdiehplbmkmeaaGreatLDupR
set_option linter.unusedSectionVars false
set_option linter.unusedSimpArgs false
set_option linter.unusedVariables false
set_option maxRecDepth 10000
namespace Go.Proofs.YtcdiehplbmkmeaaGreat
open Go Go.Sc Go.Proofs
def xj (c : CmdD) (e : Int) : RepD := ⟨c.session, c.seq, e, 0, 0, 0⟩
def kF (c : CmdD) (x : LeaD) (e : Int) : RepD := if e ≠ 0 then xj c e else ⟨c.session, c.seq, 0, x.id, x.amount, x.until_⟩
def zGC (c : CmdD) (e n : Int) : RepD := ⟨c.session, c.seq, e, 0, if e = 0 then n else 0, 0⟩
def zGc (now : Int) (cnt : Nat) (kb : List (ByteArray × Int)) (kl : List (Nat × LeaD)) (c : CmdD) (r : RepD) (cnt' : Nat) (kb' : List (ByteArray × Int)) (kl' : List (Nat × LeaD)) : Prop :=
  (c.op = 1 ∧ r = zGC c (x9 c.key c.amount kb) (yC c.key kl) ∧ cnt' = cnt ∧ kb' = zCD c.key c.amount kb ∧ kl' = kl)
  ∨ (c.op = 2 ∧ ∃ x e, e = xZ c.session c.key c.amount c.span kb kl ∧ x = kL e cnt c.session c.key c.amount (now + c.span) ∧ r = kF c x e ∧ cnt' = zAk e cnt ∧ kb' = kb ∧ kl' = zFA e x kl)
  ∨ (c.op = 3 ∧ ∃ x e, zA3 now kb kl c.session c.lease c.span x e kl' ∧ r = kF c x e ∧ cnt' = cnt ∧ kb' = kb)
  ∨ (c.op = 4 ∧ ∃ x e, zDf kl c.session c.lease x e kl' ∧ r = kF c x e ∧ cnt' = cnt ∧ kb' = kb)
  ∨ (((c.op ≠ 1 ∧ c.op ≠ 2) ∧ c.op ≠ 3 ∧ c.op ≠ 4) ∧ r = xj c 0 ∧ cnt' = cnt ∧ kb' = kb ∧ kl' = kl)
def zFh (now : Int) (cnt : Nat) (bs : List BudD) (ls : List LeaD) (c : CmdD) (r : RepD) (cnt' : Nat) (bs' : List BudD) (ls' : List LeaD) : Prop :=
  (c.op = 1 ∧ r = zGC c (zAI c.key c.amount bs) (yF c.key ls) ∧ cnt' = cnt ∧ bs' = zA1 c.key c.amount bs ∧ ls' = ls)
  ∨ (c.op = 2 ∧ ∃ x e, e = xI c.session c.key c.amount c.span bs ls ∧ x = kL e cnt c.session c.key c.amount (now + c.span) ∧ r = kF c x e ∧ cnt' = zAk e cnt ∧ bs' = bs ∧ ls' = zBH e x ls)
  ∨ (c.op = 3 ∧ ∃ x e, zAw now bs ls c.session c.lease c.span x e ls' ∧ r = kF c x e ∧ cnt' = cnt ∧ bs' = bs)
  ∨ (c.op = 4 ∧ ∃ x e, zCp ls c.session c.lease x e ls' ∧ r = kF c x e ∧ cnt' = cnt ∧ bs' = bs)
  ∨ (((c.op ≠ 1 ∧ c.op ≠ 2) ∧ c.op ≠ 3 ∧ c.op ≠ 4) ∧ r = xj c 0 ∧ cnt' = cnt ∧ bs' = bs ∧ ls' = ls)
structure LOkR (now : Int) (cnt : Nat) (bs : List BudD) (ls : List LeaD) (rs : List RepD) : Prop where
  q : QOk now cnt bs ls
  s : QSrt bs
  c : COk rs
  w : ∀ r ∈ rs, r.wf
  n : cnt ≤ 1000000000
  a : ∀ l ∈ ls, l.session < 18446744073709551616
structure LRel (kb : List (ByteArray × Int)) (kl : List (Nat × LeaD)) (kr : List (Nat × RepD)) (bs : List BudD) (ls : List LeaD) (rs : List RepD) : Prop where
  q : QRel kb kl bs ls
  c : CRel kr rs
section
variable {now : Int} {cnt cnt' cnt2 : Nat} {kb kb' : List (ByteArray × Int)} {kl kl' : List (Nat × LeaD)} {kr kr' : List (Nat × RepD)} {bs bs' : List BudD} {ls ls' : List LeaD} {rs rs' : List RepD} {c : CmdD} {r s : RepD}
theorem zDn {e : Int} {t : Int} (hc : cnt ≤ 1000000000) (ha : yw c.amount) (ht : yw t) : ∀ x, x = kL e cnt c.session c.key c.amount t → x.id < 18446744073709551616 ∧ yw x.amount ∧ yw x.until_ := by
  rintro x rfl
  unfold kL
  split
  · exact ⟨by show cnt + 1 < _; omega, ha, ht⟩
  · exact ⟨by decide, by unfold yw; decide, by unfold yw; decide⟩
theorem ji {x : LeaD} {e : Int} (hc : c.wf) (h : x.id < 18446744073709551616 ∧ yw x.amount ∧ yw x.until_) : (kF c x e).wf := by
  unfold kF xj
  split
  · exact ⟨hc.session, hc.seq, by show (0 : Nat) < _; omega, by show yw 0; unfold yw; decide, by show yw 0; unfold yw; decide⟩
  · exact ⟨hc.session, hc.seq, h.1, h.2.1, h.2.2⟩
theorem xA {e : Int} (hc : c.wf) : (xj c e).wf := ⟨hc.session, hc.seq, by show (0 : Nat) < _; omega, by show yw 0; unfold yw; decide, by show yw 0; unfold yw; decide⟩
theorem zC2 (h : QOk now cnt bs ls) (hc : cnt ≤ 1000000000) : ∀ x ∈ ls, x.id < 18446744073709551616 ∧ yw x.amount ∧ yw x.until_ := fun x hx => by
  have h0 := h.lok x hx
  have h1 := h.sums x.key
  have h2 := zAv (k := x.key) (List.singleton_sublist.2 hx) h.pos
  have h3 := h.time
  simp only [yg, if_true] at h2
  unfold yw
  omega
theorem zIz (h : LOkR now cnt bs ls rs) (hr : QRel kb kl bs ls) (hc : c.wf) (h1 : zGc now cnt kb kl c r cnt' kb' kl') (h2 : zFh now cnt bs ls c s cnt2 bs' ls') :
    r = s ∧ cnt' = cnt2 ∧ QRel kb' kl' bs' ls' ∧ QOk now cnt2 bs' ls' ∧ QSrt bs' ∧ r.wf ∧ cnt2 ≤ cnt + 1 := by
  have ho := h.q
  have hcn := h.n
  have ht := ho.time
  rcases h1 with ⟨o, h1⟩ | ⟨o, x, e, e1, x1, h1⟩ | ⟨o, x, e, k1, h1⟩ | ⟨o, x, e, k1, h1⟩ | ⟨o, h1⟩ <;> rcases h2 with ⟨p, h2⟩ | ⟨p, y, f, f1, y1, h2⟩ | ⟨p, y, f, k2, h2⟩ | ⟨p, y, f, k2, h2⟩ | ⟨p, h2⟩ <;> first | (exfalso; omega) | skip
  · obtain ⟨rfl, rfl, rfl, rfl⟩ := h1
    obtain ⟨rfl, rfl, rfl, rfl⟩ := h2
    have e : zGC c (x9 c.key c.amount kb) (yC c.key kl') = zGC c (zAI c.key c.amount bs) (yF c.key ls') := by rw [zE6 ho hr, hr.lent]
    refine ⟨e, rfl, QRel.set ho hr _ _, ho.set _ _ hc.amount, h.s.set _ _, ?_, Nat.le_succ _⟩
    rw [e]
    have hb := ho.lent0 c.key
    refine ⟨hc.session, hc.seq, by show (0 : Nat) < _; omega, ?_, by show yw 0; unfold yw; decide⟩
    show yw (if _ then _ else _)
    unfold yw
    split <;> omega
  · obtain ⟨rfl, rfl, rfl, rfl⟩ := h1
    obtain ⟨rfl, rfl, rfl, rfl⟩ := h2
    have ee : e = f := e1.trans ((zGj ho hr _ _ _ _).trans f1.symm)
    subst ee
    have xx : x = y := x1.trans y1.symm
    subst xx
    refine ⟨rfl, rfl, QRel.lend ho hr (fun h0 => by rw [x1]; unfold kL; rw [if_pos h0]), ?_, h.s, ?_, ?_⟩
    · rw [x1]; exact ho.lend f1
    · by_cases h0 : e = 0
      · refine ji hc (zDn hcn hc.amount ?_ x x1)
        have := (zDg (f1.symm.trans h0)).1.2.2.2
        unfold yQ at this
        unfold yw; omega
      · unfold kF; rw [if_pos h0]; exact xA hc
    · unfold zAk; split <;> omega
  · obtain ⟨rfl, rfl, rfl⟩ := h1
    obtain ⟨rfl, rfl, rfl⟩ := h2
    obtain ⟨rfl, rfl, q1, q2⟩ := zFi ho hr k1 k2
    refine ⟨rfl, rfl, q1, q2, h.s, ?_, Nat.le_succ _⟩
    by_cases h0 : e = 0
    · refine ji hc ?_
      rcases k2 with q | q | ⟨_, k, hk, _, _, q | ⟨_, _, q3, q4⟩⟩
      · rw [q.2.1] at h0; cases h0
      · rw [q.2.2.1] at h0; cases h0
      · rw [q.2.1] at h0; cases h0
      · exact zC2 q2 hcn x (by rw [q4]; exact List.mem_of_getElem? (by rw [List.getElem?_set_self (by omega)]))
    · unfold kF; rw [if_pos h0]; exact xA hc
  · obtain ⟨rfl, rfl, rfl⟩ := h1
    obtain ⟨rfl, rfl, rfl⟩ := h2
    obtain ⟨rfl, rfl, q1, q2⟩ := zGb ho hr k1 k2
    refine ⟨rfl, rfl, q1, q2, h.s, ?_, Nat.le_succ _⟩
    by_cases h0 : e = 0
    · refine ji hc ?_
      rcases k2 with q | ⟨k, hk, _, _, _, q3, _⟩
      · rw [q.2.1] at h0; cases h0
      · rw [q3]; exact zC2 ho hcn _ (yT hk)
    · unfold kF; rw [if_pos h0]; exact xA hc
  · obtain ⟨rfl, rfl, rfl, rfl⟩ := h1
    obtain ⟨rfl, rfl, rfl, rfl⟩ := h2
    exact ⟨rfl, rfl, hr, ho, h.s, xA hc, Nat.le_succ _⟩
end
def xR (c : CmdD) (q : RepD × Int) (r : RepD) : Prop :=
  (¬ c.ok ∧ r = xj c 2) ∨ (c.ok ∧ c.session = 0 ∧ r = xj c (if c.op = 5 then 0 else 1)) ∨ (c.ok ∧ c.session ≠ 0 ∧ c.seq = 0 ∧ r = xj c 18)
  ∨ ((c.ok ∧ c.session ≠ 0 ∧ c.seq ≠ 0) ∧ q.2 ≠ 8 ∧ r = if q.2 = 0 then q.1 else xj c (if q.2 = 13 then 18 else q.2))
def GoR (c : CmdD) (q : RepD × Int) : Prop := (c.ok ∧ c.session ≠ 0 ∧ c.seq ≠ 0) ∧ q.2 = 8
def DoK (now : Int) (cnt : Nat) (kb : List (ByteArray × Int)) (kl : List (Nat × LeaD)) (kr : List (Nat × RepD)) (c : CmdD) (r : RepD) (did : Bool) (cnt' : Nat) (kb' : List (ByteArray × Int)) (kl' : List (Nat × LeaD)) (kr' : List (Nat × RepD)) : Prop :=
  (xR c (zu kr c.session c.seq) r ∧ did = false ∧ cnt' = cnt ∧ kb' = kb ∧ kl' = kl ∧ kr' = kr)
  ∨ (GoR c (zu kr c.session c.seq) ∧ zGc now cnt kb kl c r cnt' kb' kl' ∧ did = true ∧ kr' = jP kr r)
def DoR (now : Int) (cnt : Nat) (bs : List BudD) (ls : List LeaD) (rs : List RepD) (c : CmdD) (r : RepD) (did : Bool) (cnt' : Nat) (bs' : List BudD) (ls' : List LeaD) (rs' : List RepD) : Prop :=
  (xR c (zu (KR rs) c.session c.seq) r ∧ did = false ∧ cnt' = cnt ∧ bs' = bs ∧ ls' = ls ∧ rs' = rs)
  ∨ (GoR c (zu (KR rs) c.session c.seq) ∧ zFh now cnt bs ls c r cnt' bs' ls' ∧ did = true ∧ rs' = kP rs r)
theorem zEq {c : CmdD} {q : RepD × Int} {r s : RepD} (h1 : xR c q r) (h2 : xR c q s) : r = s := by
  rcases h1 with h1 | h1 | h1 | h1 <;> rcases h2 with h2 | h2 | h2 | h2
  all_goals first
    | exact h1.2.trans h2.2.symm
    | exact h1.2.2.trans h2.2.2.symm
    | exact h1.2.2.2.trans h2.2.2.2.symm
    | exact absurd h2.1 h1.1
    | exact absurd h1.1 h2.1
    | exact absurd h2.1.1 h1.1
    | exact absurd h1.1.1 h2.1
    | exact absurd h1.2.1 h2.2.1
    | exact absurd h2.2.1 h1.2.1
    | exact absurd h1.2.1 h2.1.2.1
    | exact absurd h2.2.1 h1.1.2.1
    | exact absurd h1.2.2.1 h2.1.2.2
    | exact absurd h2.2.2.1 h1.1.2.2
theorem zCH {c : CmdD} {q : RepD × Int} {r : RepD} (h1 : xR c q r) (h2 : GoR c q) : False := by
  rcases h1 with h1 | h1 | h1 | h1
  · exact h1.1 h2.1.1
  · exact h2.1.2.1 h1.2.1
  · exact h2.1.2.2 h1.2.2.1
  · exact h1.2.1 h2.2
theorem zG6 {rs : List RepD} {s q : Nat} {x : RepD} (h : zu (KR rs) s q = (x, 0)) : x ∈ rs := by
  unfold zu at h
  split at h
  · cases h
  · split at h
    · split at h <;> cases h
    · rename_i r hg
      split at h
      · cases h
      · split at h
        · cases h
        · cases h; exact (zDz hg).1
section
variable {now : Int} {cnt cnt' cnt2 : Nat} {kb kb' : List (ByteArray × Int)} {kl kl' : List (Nat × LeaD)} {kr kr' : List (Nat × RepD)} {bs bs' : List BudD} {ls ls' : List LeaD} {rs rs' : List RepD} {c : CmdD} {r s : RepD} {did did2 : Bool}
theorem zGE (hc : c.wf) (hw : ∀ r ∈ rs, r.wf) (h : xR c (zu (KR rs) c.session c.seq) r) : r.wf := by
  rcases h with h | h | h | h
  · rw [h.2]; exact xA hc
  · rw [h.2.2]; exact xA hc
  · rw [h.2.2.2]; exact xA hc
  · rw [h.2.2]
    split
    · rename_i h0
      exact hw _ (zG6 (s := c.session) (q := c.seq) (Prod.ext rfl h0))
    · exact xA hc
theorem zFo (ha : ∀ l ∈ ls, l.session < 18446744073709551616) (hc : c.wf) (h : zFh now cnt bs ls c s cnt2 bs' ls') : ∀ l ∈ ls', l.session < 18446744073709551616 := by
  rcases h with h | ⟨_, x, e, _, h2, _, _, _, h3⟩ | ⟨_, x, e, h1, _⟩ | ⟨_, x, e, h1, _⟩ | h
  · rw [h.2.2.2.2]; exact ha
  · intro l hl
    rw [h3] at hl
    unfold zBH at hl
    split at hl
    · rename_i h0
      rcases List.mem_append.1 hl with hl | hl
      · exact ha l hl
      · rw [List.mem_singleton.1 hl, h2, kL, if_pos h0]; exact hc.session
    · exact ha l hl
  · rcases h1 with h1 | h1 | ⟨_, k, hk, _, _, h1 | h1⟩
    · rw [h1.2.2.2]; exact ha
    · rw [h1.2.2.2.2]; exact ha
    · rw [h1.2.2.2]; exact ha
    · rw [h1.2.2.2]; intro l hl
      rcases List.mem_or_eq_of_mem_set hl with hl | hl
      · exact ha l hl
      · rw [hl, h1.2.2.1]; exact ha (zH ls k) (yT hk)
  · rcases h1 with h1 | ⟨k, hk, _, _, _, _, h1⟩
    · rw [h1.2.2.2]; exact ha
    · rw [h1]; intro l hl
      rcases List.mem_append.1 hl with hl | hl
      · exact ha l (List.mem_of_mem_take hl)
      · exact ha l (List.mem_of_mem_drop hl)
  · rw [h.2.2.2.2]; exact ha
theorem zEZ (h : LOkR now cnt bs ls rs) (hr : LRel kb kl kr bs ls rs) (hc : c.wf) (hn : cnt < 1000000000) (h1 : DoK now cnt kb kl kr c r did cnt' kb' kl' kr') (h2 : DoR now cnt bs ls rs c s did2 cnt2 bs' ls' rs') :
    r = s ∧ did = did2 ∧ cnt' = cnt2 ∧ LRel kb' kl' kr' bs' ls' rs' ∧ LOkR now cnt2 bs' ls' rs' ∧ r.wf ∧ cnt2 ≤ cnt + 1 := by
  have hf := zD2 h.c hr.c c.session c.seq
  rcases h1 with ⟨h1, rfl, rfl, rfl, rfl, rfl⟩ | ⟨h1, t1, rfl, rfl⟩ <;> rcases h2 with ⟨h2, rfl, rfl, rfl, rfl, rfl⟩ | ⟨h2, t2, rfl, rfl⟩
  · rw [hf] at h1
    obtain rfl := zEq h1 h2
    exact ⟨rfl, rfl, rfl, hr, h, zGE hc h.w h1, Nat.le_succ _⟩
  · rw [hf] at h1; exact (zCH h1 h2).elim
  · rw [hf] at h1; exact (zCH h2 h1).elim
  · obtain ⟨rfl, rfl, q1, q2, q3, q4, q5⟩ := zIz h hr.q hc t1 t2
    refine ⟨rfl, rfl, rfl, ⟨q1, zHc h.c hr.c r⟩, ⟨q2, q3, zHu h.c r, fun x hx => ?_, by omega, zFo h.a hc t2⟩, q4, q5⟩
    rcases zFm rs r x hx with k | k
    · exact h.w x k
    · rw [k]; exact q4
end
theorem LOkR.start : LOkR 0 0 [] [] [] := ⟨QOk.start, QSrt.start, COk.start, by simp, by omega, by simp⟩
theorem LRel.start : LRel [] [] [] [] [] [] := ⟨QRel.start, CRel.start⟩
end Go.Proofs.YtcdiehplbmkmeaaGreat
