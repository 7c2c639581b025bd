import Derived.Test.YtcdiehplbmkmeaaGreatQuotaP
import Derived.Test.YtcdiehplbmkmeaaGreatLDupR
set_option linter.unusedSectionVars false
set_option linter.unusedSimpArgs false
set_option linter.unusedVariables false
set_option maxRecDepth 10000
namespace Go.Proofs.YtcdiehplbmkmeaaGreat
open Go Go.Sc Go.Proofs
def xj (c : CmdD) (e : Int) : RepD := ⟨c.session, c.seq, e, 0, 0, 0⟩
def xv (c : CmdD) (x : LeaD) (e : Int) : RepD := if e ≠ 0 then xj c e else ⟨c.session, c.seq, 0, x.id, x.amount, x.until_⟩
def zFi (c : CmdD) (e n : Int) : RepD := ⟨c.session, c.seq, e, 0, if e = 0 then n else 0, 0⟩
def zHj (now : Int) (cnt : Nat) (kb : List (ByteArray × Int)) (kl : List (Nat × LeaD)) (c : CmdD) (r : RepD) (cnt' : Nat) (kb' : List (ByteArray × Int)) (kl' : List (Nat × LeaD)) : Prop :=
  (c.op = 1 ∧ r = zFi c (x4 c.key c.amount kb) (yA c.key kl) ∧ cnt' = cnt ∧ kb' = zB5 c.key c.amount kb ∧ kl' = kl)
  ∨ (c.op = 2 ∧ ∃ x e, e = xV c.session c.key c.amount c.span kb kl ∧ x = kL e cnt c.session c.key c.amount (now + c.span) ∧ r = xv c x e ∧ cnt' = zAU e cnt ∧ kb' = kb ∧ kl' = zFJ e x kl)
  ∨ (c.op = 3 ∧ ∃ x e, zAv now kb kl c.session c.lease c.span x e kl' ∧ r = xv c x e ∧ cnt' = cnt ∧ kb' = kb)
  ∨ (c.op = 4 ∧ ∃ x e, zD5 kl c.session c.lease x e kl' ∧ r = xv c x e ∧ cnt' = cnt ∧ kb' = kb)
  ∨ (((c.op ≠ 1 ∧ c.op ≠ 2) ∧ c.op ≠ 3 ∧ c.op ≠ 4) ∧ r = xj c 0 ∧ cnt' = cnt ∧ kb' = kb ∧ kl' = kl)
def zFn (now : Int) (cnt : Nat) (bs : List BudD) (ls : List LeaD) (c : CmdD) (r : RepD) (cnt' : Nat) (bs' : List BudD) (ls' : List LeaD) : Prop :=
  (c.op = 1 ∧ r = zFi c (zAA c.key c.amount bs) (yF c.key ls) ∧ cnt' = cnt ∧ bs' = zAs c.key c.amount bs ∧ ls' = ls)
  ∨ (c.op = 2 ∧ ∃ x e, e = xG c.session c.key c.amount c.span bs ls ∧ x = kL e cnt c.session c.key c.amount (now + c.span) ∧ r = xv c x e ∧ cnt' = zAU e cnt ∧ bs' = bs ∧ ls' = zBD e x ls)
  ∨ (c.op = 3 ∧ ∃ x e, zA0 now bs ls c.session c.lease c.span x e ls' ∧ r = xv c x e ∧ cnt' = cnt ∧ bs' = bs)
  ∨ (c.op = 4 ∧ ∃ x e, zCf ls c.session c.lease x e ls' ∧ r = xv c x e ∧ cnt' = cnt ∧ bs' = bs)
  ∨ (((c.op ≠ 1 ∧ c.op ≠ 2) ∧ c.op ≠ 3 ∧ c.op ≠ 4) ∧ r = xj c 0 ∧ cnt' = cnt ∧ bs' = bs ∧ ls' = ls)
structure LOkR (now : Int) (cnt : Nat) (bs : List BudD) (ls : List LeaD) (rs : List RepD) : Prop where
  q : QOk now cnt bs ls
  s : QSrt bs
  c : COk rs
  w : ∀ r ∈ rs, r.wf
  n : cnt ≤ 1000000000
  a : ∀ l ∈ ls, l.session < 18446744073709551616
structure LRel (kb : List (ByteArray × Int)) (kl : List (Nat × LeaD)) (kr : List (Nat × RepD)) (bs : List BudD) (ls : List LeaD) (rs : List RepD) : Prop where
  q : QRel kb kl bs ls
  c : CRel kr rs
section
variable {now : Int} {cnt cnt' cnt2 : Nat} {kb kb' : List (ByteArray × Int)} {kl kl' : List (Nat × LeaD)} {kr kr' : List (Nat × RepD)} {bs bs' : List BudD} {ls ls' : List LeaD} {rs rs' : List RepD} {c : CmdD} {r s : RepD}
theorem zD0 {e : Int} {t : Int} (hc : cnt ≤ 1000000000) (ha : yx c.amount) (ht : yx t) : ∀ x, x = kL e cnt c.session c.key c.amount t → x.id < 18446744073709551616 ∧ yx x.amount ∧ yx x.until_ := by
  rintro x rfl
  unfold kL
  split
  · exact ⟨by show cnt + 1 < _; omega, ha, ht⟩
  · exact ⟨by decide, by unfold yx; decide, by unfold yx; decide⟩
theorem jf {x : LeaD} {e : Int} (hc : c.wf) (h : x.id < 18446744073709551616 ∧ yx x.amount ∧ yx x.until_) : (xv c x e).wf := by
  unfold xv xj
  split
  · exact ⟨hc.session, hc.seq, by show (0 : Nat) < _; omega, by show yx 0; unfold yx; decide, by show yx 0; unfold yx; decide⟩
  · exact ⟨hc.session, hc.seq, h.1, h.2.1, h.2.2⟩
theorem y9 {e : Int} (hc : c.wf) : (xj c e).wf := ⟨hc.session, hc.seq, by show (0 : Nat) < _; omega, by show yx 0; unfold yx; decide, by show yx 0; unfold yx; decide⟩
theorem zDA (h : QOk now cnt bs ls) (hc : cnt ≤ 1000000000) : ∀ x ∈ ls, x.id < 18446744073709551616 ∧ yx x.amount ∧ yx x.until_ := fun x hx => by
  have h0 := h.lok x hx
  have h1 := h.sums x.key
  have h2 := zAx (k := x.key) (List.singleton_sublist.2 hx) h.pos
  have h3 := h.time
  simp only [yd, if_true] at h2
  unfold yx
  omega
theorem zIb (h : LOkR now cnt bs ls rs) (hr : QRel kb kl bs ls) (hc : c.wf) (h1 : zHj now cnt kb kl c r cnt' kb' kl') (h2 : zFn now cnt bs ls c s cnt2 bs' ls') :
    r = s ∧ cnt' = cnt2 ∧ QRel kb' kl' bs' ls' ∧ QOk now cnt2 bs' ls' ∧ QSrt bs' ∧ r.wf ∧ cnt2 ≤ cnt + 1 := by
  have ho := h.q
  have hcn := h.n
  have ht := ho.time
  rcases h1 with ⟨o, h1⟩ | ⟨o, x, e, e1, x1, h1⟩ | ⟨o, x, e, k1, h1⟩ | ⟨o, x, e, k1, h1⟩ | ⟨o, h1⟩ <;> rcases h2 with ⟨p, h2⟩ | ⟨p, y, f, f1, y1, h2⟩ | ⟨p, y, f, k2, h2⟩ | ⟨p, y, f, k2, h2⟩ | ⟨p, h2⟩ <;> first | (exfalso; omega) | skip
  · obtain ⟨rfl, rfl, rfl, rfl⟩ := h1
    obtain ⟨rfl, rfl, rfl, rfl⟩ := h2
    have e : zFi c (x4 c.key c.amount kb) (yA c.key kl') = zFi c (zAA c.key c.amount bs) (yF c.key ls') := by rw [zEn ho hr, hr.lent]
    refine ⟨e, rfl, QRel.set ho hr _ _, ho.set _ _ hc.amount, h.s.set _ _, ?_, Nat.le_succ _⟩
    rw [e]
    have hb := ho.lent0 c.key
    refine ⟨hc.session, hc.seq, by show (0 : Nat) < _; omega, ?_, by show yx 0; unfold yx; decide⟩
    show yx (if _ then _ else _)
    unfold yx
    split <;> omega
  · obtain ⟨rfl, rfl, rfl, rfl⟩ := h1
    obtain ⟨rfl, rfl, rfl, rfl⟩ := h2
    have ee : e = f := e1.trans ((zGc ho hr _ _ _ _).trans f1.symm)
    subst ee
    have xx : x = y := x1.trans y1.symm
    subst xx
    refine ⟨rfl, rfl, QRel.lend ho hr (fun h0 => by rw [x1]; unfold kL; rw [if_pos h0]), ?_, h.s, ?_, ?_⟩
    · rw [x1]; exact ho.lend f1
    · by_cases h0 : e = 0
      · refine jf hc (zD0 hcn hc.amount ?_ x x1)
        have := (zDm (f1.symm.trans h0)).1.2.2.2
        unfold yM at this
        unfold yx; omega
      · unfold xv; rw [if_pos h0]; exact y9 hc
    · unfold zAU; split <;> omega
  · obtain ⟨rfl, rfl, rfl⟩ := h1
    obtain ⟨rfl, rfl, rfl⟩ := h2
    obtain ⟨rfl, rfl, q1, q2⟩ := zFt ho hr k1 k2
    refine ⟨rfl, rfl, q1, q2, h.s, ?_, Nat.le_succ _⟩
    by_cases h0 : e = 0
    · refine jf hc ?_
      rcases k2 with q | q | ⟨_, k, hk, _, _, q | ⟨_, _, q3, q4⟩⟩
      · rw [q.2.1] at h0; cases h0
      · rw [q.2.2.1] at h0; cases h0
      · rw [q.2.1] at h0; cases h0
      · exact zDA q2 hcn x (by rw [q4]; exact List.mem_of_getElem? (by rw [List.getElem?_set_self (by omega)]))
    · unfold xv; rw [if_pos h0]; exact y9 hc
  · obtain ⟨rfl, rfl, rfl⟩ := h1
    obtain ⟨rfl, rfl, rfl⟩ := h2
    obtain ⟨rfl, rfl, q1, q2⟩ := zHy ho hr k1 k2
    refine ⟨rfl, rfl, q1, q2, h.s, ?_, Nat.le_succ _⟩
    by_cases h0 : e = 0
    · refine jf hc ?_
      rcases k2 with q | ⟨k, hk, _, _, _, q3, _⟩
      · rw [q.2.1] at h0; cases h0
      · rw [q3]; exact zDA ho hcn _ (yR hk)
    · unfold xv; rw [if_pos h0]; exact y9 hc
  · obtain ⟨rfl, rfl, rfl, rfl⟩ := h1
    obtain ⟨rfl, rfl, rfl, rfl⟩ := h2
    exact ⟨rfl, rfl, hr, ho, h.s, y9 hc, Nat.le_succ _⟩
end
def xP (c : CmdD) (q : RepD × Int) (r : RepD) : Prop :=
  (¬ c.ok ∧ r = xj c 2) ∨ (c.ok ∧ c.session = 0 ∧ r = xj c (if c.op = 5 then 0 else 1)) ∨ (c.ok ∧ c.session ≠ 0 ∧ c.seq = 0 ∧ r = xj c 18)
  ∨ ((c.ok ∧ c.session ≠ 0 ∧ c.seq ≠ 0) ∧ q.2 ≠ 8 ∧ r = if q.2 = 0 then q.1 else xj c (if q.2 = 13 then 18 else q.2))
def GoR (c : CmdD) (q : RepD × Int) : Prop := (c.ok ∧ c.session ≠ 0 ∧ c.seq ≠ 0) ∧ q.2 = 8
def DoK (now : Int) (cnt : Nat) (kb : List (ByteArray × Int)) (kl : List (Nat × LeaD)) (kr : List (Nat × RepD)) (c : CmdD) (r : RepD) (did : Bool) (cnt' : Nat) (kb' : List (ByteArray × Int)) (kl' : List (Nat × LeaD)) (kr' : List (Nat × RepD)) : Prop :=
  (xP c (zu kr c.session c.seq) r ∧ did = false ∧ cnt' = cnt ∧ kb' = kb ∧ kl' = kl ∧ kr' = kr)
  ∨ (GoR c (zu kr c.session c.seq) ∧ zHj now cnt kb kl c r cnt' kb' kl' ∧ did = true ∧ kr' = jJ kr r)
def DoR (now : Int) (cnt : Nat) (bs : List BudD) (ls : List LeaD) (rs : List RepD) (c : CmdD) (r : RepD) (did : Bool) (cnt' : Nat) (bs' : List BudD) (ls' : List LeaD) (rs' : List RepD) : Prop :=
  (xP c (zu (KR rs) c.session c.seq) r ∧ did = false ∧ cnt' = cnt ∧ bs' = bs ∧ ls' = ls ∧ rs' = rs)
  ∨ (GoR c (zu (KR rs) c.session c.seq) ∧ zFn now cnt bs ls c r cnt' bs' ls' ∧ did = true ∧ rs' = kO rs r)
theorem zEG {c : CmdD} {q : RepD × Int} {r s : RepD} (h1 : xP c q r) (h2 : xP c q s) : r = s := by
  rcases h1 with h1 | h1 | h1 | h1 <;> rcases h2 with h2 | h2 | h2 | h2
  all_goals first
    | exact h1.2.trans h2.2.symm
    | exact h1.2.2.trans h2.2.2.symm
    | exact h1.2.2.2.trans h2.2.2.2.symm
    | exact absurd h2.1 h1.1
    | exact absurd h1.1 h2.1
    | exact absurd h2.1.1 h1.1
    | exact absurd h1.1.1 h2.1
    | exact absurd h1.2.1 h2.2.1
    | exact absurd h2.2.1 h1.2.1
    | exact absurd h1.2.1 h2.1.2.1
    | exact absurd h2.2.1 h1.1.2.1
    | exact absurd h1.2.2.1 h2.1.2.2
    | exact absurd h2.2.2.1 h1.1.2.2
theorem zCN {c : CmdD} {q : RepD × Int} {r : RepD} (h1 : xP c q r) (h2 : GoR c q) : False := by
  rcases h1 with h1 | h1 | h1 | h1
  · exact h1.1 h2.1.1
  · exact h2.1.2.1 h1.2.1
  · exact h2.1.2.2 h1.2.2.1
  · exact h1.2.1 h2.2
theorem zHx {rs : List RepD} {s q : Nat} {x : RepD} (h : zu (KR rs) s q = (x, 0)) : x ∈ rs := by
  unfold zu at h
  split at h
  · cases h
  · split at h
    · split at h <;> cases h
    · rename_i r hg
      split at h
      · cases h
      · split at h
        · cases h
        · cases h; exact (zDQ hg).1
section
variable {now : Int} {cnt cnt' cnt2 : Nat} {kb kb' : List (ByteArray × Int)} {kl kl' : List (Nat × LeaD)} {kr kr' : List (Nat × RepD)} {bs bs' : List BudD} {ls ls' : List LeaD} {rs rs' : List RepD} {c : CmdD} {r s : RepD} {did did2 : Bool}
theorem zFN (hc : c.wf) (hw : ∀ r ∈ rs, r.wf) (h : xP c (zu (KR rs) c.session c.seq) r) : r.wf := by
  rcases h with h | h | h | h
  · rw [h.2]; exact y9 hc
  · rw [h.2.2]; exact y9 hc
  · rw [h.2.2.2]; exact y9 hc
  · rw [h.2.2]
    split
    · rename_i h0
      exact hw _ (zHx (s := c.session) (q := c.seq) (Prod.ext rfl h0))
    · exact y9 hc
theorem zFM (ha : ∀ l ∈ ls, l.session < 18446744073709551616) (hc : c.wf) (h : zFn now cnt bs ls c s cnt2 bs' ls') : ∀ l ∈ ls', l.session < 18446744073709551616 := by
  rcases h with h | ⟨_, x, e, _, h2, _, _, _, h3⟩ | ⟨_, x, e, h1, _⟩ | ⟨_, x, e, h1, _⟩ | h
  · rw [h.2.2.2.2]; exact ha
  · intro l hl
    rw [h3] at hl
    unfold zBD at hl
    split at hl
    · rename_i h0
      rcases List.mem_append.1 hl with hl | hl
      · exact ha l hl
      · rw [List.mem_singleton.1 hl, h2, kL, if_pos h0]; exact hc.session
    · exact ha l hl
  · rcases h1 with h1 | h1 | ⟨_, k, hk, _, _, h1 | h1⟩
    · rw [h1.2.2.2]; exact ha
    · rw [h1.2.2.2.2]; exact ha
    · rw [h1.2.2.2]; exact ha
    · rw [h1.2.2.2]; intro l hl
      rcases List.mem_or_eq_of_mem_set hl with hl | hl
      · exact ha l hl
      · rw [hl, h1.2.2.1]; exact ha (zG ls k) (yR hk)
  · rcases h1 with h1 | ⟨k, hk, _, _, _, _, h1⟩
    · rw [h1.2.2.2]; exact ha
    · rw [h1]; intro l hl
      rcases List.mem_append.1 hl with hl | hl
      · exact ha l (List.mem_of_mem_take hl)
      · exact ha l (List.mem_of_mem_drop hl)
  · rw [h.2.2.2.2]; exact ha
theorem zEE (h : LOkR now cnt bs ls rs) (hr : LRel kb kl kr bs ls rs) (hc : c.wf) (hn : cnt < 1000000000) (h1 : DoK now cnt kb kl kr c r did cnt' kb' kl' kr') (h2 : DoR now cnt bs ls rs c s did2 cnt2 bs' ls' rs') :
    r = s ∧ did = did2 ∧ cnt' = cnt2 ∧ LRel kb' kl' kr' bs' ls' rs' ∧ LOkR now cnt2 bs' ls' rs' ∧ r.wf ∧ cnt2 ≤ cnt + 1 := by
  have hf := zDl h.c hr.c c.session c.seq
  rcases h1 with ⟨h1, rfl, rfl, rfl, rfl, rfl⟩ | ⟨h1, t1, rfl, rfl⟩ <;> rcases h2 with ⟨h2, rfl, rfl, rfl, rfl, rfl⟩ | ⟨h2, t2, rfl, rfl⟩
  · rw [hf] at h1
    obtain rfl := zEG h1 h2
    exact ⟨rfl, rfl, rfl, hr, h, zFN hc h.w h1, Nat.le_succ _⟩
  · rw [hf] at h1; exact (zCN h1 h2).elim
  · rw [hf] at h1; exact (zCN h2 h1).elim
  · obtain ⟨rfl, rfl, q1, q2, q3, q4, q5⟩ := zIb h hr.q hc t1 t2
    refine ⟨rfl, rfl, rfl, ⟨q1, zGj h.c hr.c r⟩, ⟨q2, q3, zGG h.c r, fun x hx => ?_, by omega, zFM h.a hc t2⟩, q4, q5⟩
    rcases zFR rs r x hx with k | k
    · exact h.w x k
    · rw [k]; exact q4
end
theorem LOkR.start : LOkR 0 0 [] [] [] := ⟨QOk.start, QSrt.start, COk.start, by simp, by omega, by simp⟩
theorem LRel.start : LRel [] [] [] [] [] [] := ⟨QRel.start, CRel.start⟩
end Go.Proofs.YtcdiehplbmkmeaaGreat
