import Derived.Test.YtcdiehplbmkmeaaQuotaP
import Derived.Test.YtcdiehplbmkmeaaLDupR
set_option linter.unusedSectionVars false
set_option linter.unusedSimpArgs false
set_option linter.unusedVariables false
set_option maxRecDepth 10000
namespace Go.Proofs.Ytcdiehplbmkmeaa
open Go Go.Sc Go.Proofs
def xa (c : CmdD) (e : Int) : RepD := ⟨c.session, c.seq, e, 0, 0, 0⟩
def kc (c : CmdD) (x : LeaD) (e : Int) : RepD := if e ≠ 0 then xa c e else ⟨c.session, c.seq, 0, x.id, x.amount, x.until_⟩
def zG6 (c : CmdD) (e n : Int) : RepD := ⟨c.session, c.seq, e, 0, if e = 0 then n else 0, 0⟩
def zHg (now : Int) (cnt : Nat) (kb : List (ByteArray × Int)) (kl : List (Nat × LeaD)) (c : CmdD) (r : RepD) (cnt' : Nat) (kb' : List (ByteArray × Int)) (kl' : List (Nat × LeaD)) : Prop :=
  (c.op = 1 ∧ r = zG6 c (xq c.key c.amount kb) (z4 c.key kl) ∧ cnt' = cnt ∧ kb' = zBg c.key c.amount kb ∧ kl' = kl)
  ∨ (c.op = 2 ∧ ∃ x e, e = xH c.session c.key c.amount c.span kb kl ∧ x = jA e cnt c.session c.key c.amount (now + c.span) ∧ r = kc c x e ∧ cnt' = zAc e cnt ∧ kb' = kb ∧ kl' = zEe e x kl)
  ∨ (c.op = 3 ∧ ∃ x e, zAX now kb kl c.session c.lease c.span x e kl' ∧ r = kc c x e ∧ cnt' = cnt ∧ kb' = kb)
  ∨ (c.op = 4 ∧ ∃ x e, zDQ kl c.session c.lease x e kl' ∧ r = kc c x e ∧ cnt' = cnt ∧ kb' = kb)
  ∨ (((c.op ≠ 1 ∧ c.op ≠ 2) ∧ c.op ≠ 3 ∧ c.op ≠ 4) ∧ r = xa c 0 ∧ cnt' = cnt ∧ kb' = kb ∧ kl' = kl)
def zHs (now : Int) (cnt : Nat) (bs : List BudD) (ls : List LeaD) (c : CmdD) (r : RepD) (cnt' : Nat) (bs' : List BudD) (ls' : List LeaD) : Prop :=
  (c.op = 1 ∧ r = zG6 c (zDx c.key c.amount bs) (xN c.key ls) ∧ cnt' = cnt ∧ bs' = zDS c.key c.amount bs ∧ ls' = ls)
  ∨ (c.op = 2 ∧ ∃ x e, e = kq c.session c.key c.amount c.span bs ls ∧ x = jA e cnt c.session c.key c.amount (now + c.span) ∧ r = kc c x e ∧ cnt' = zAc e cnt ∧ bs' = bs ∧ ls' = zBX e x ls)
  ∨ (c.op = 3 ∧ ∃ x e, zEJ now bs ls c.session c.lease c.span x e ls' ∧ r = kc c x e ∧ cnt' = cnt ∧ bs' = bs)
  ∨ (c.op = 4 ∧ ∃ x e, zFt ls c.session c.lease x e ls' ∧ r = kc c x e ∧ cnt' = cnt ∧ bs' = bs)
  ∨ (((c.op ≠ 1 ∧ c.op ≠ 2) ∧ c.op ≠ 3 ∧ c.op ≠ 4) ∧ r = xa c 0 ∧ cnt' = cnt ∧ bs' = bs ∧ ls' = ls)
structure LOkR (now : Int) (cnt : Nat) (bs : List BudD) (ls : List LeaD) (rs : List RepD) : Prop where
  q : QOk now cnt bs ls
  s : QSrt bs
  c : COk rs
  w : ∀ r ∈ rs, r.wf
  n : cnt ≤ 1000000000
  a : ∀ l ∈ ls, l.session < 18446744073709551616
structure LRel (kb : List (ByteArray × Int)) (kl : List (Nat × LeaD)) (kr : List (Nat × RepD)) (bs : List BudD) (ls : List LeaD) (rs : List RepD) : Prop where
  q : QRel kb kl bs ls
  c : CRel kr rs
section
variable {now : Int} {cnt cnt' cnt2 : Nat} {kb kb' : List (ByteArray × Int)} {kl kl' : List (Nat × LeaD)} {kr kr' : List (Nat × RepD)} {bs bs' : List BudD} {ls ls' : List LeaD} {rs rs' : List RepD} {c : CmdD} {r s : RepD}
theorem zDK {e : Int} {t : Int} (hc : cnt ≤ 1000000000) (ha : ye c.amount) (ht : ye t) : ∀ x, x = jA e cnt c.session c.key c.amount t → x.id < 18446744073709551616 ∧ ye x.amount ∧ ye x.until_ := by
  rintro x rfl
  unfold jA
  split
  · exact ⟨by show cnt + 1 < _; omega, ha, ht⟩
  · exact ⟨by decide, by unfold ye; decide, by unfold ye; decide⟩
theorem jM {x : LeaD} {e : Int} (hc : c.wf) (h : x.id < 18446744073709551616 ∧ ye x.amount ∧ ye x.until_) : (kc c x e).wf := by
  unfold kc xa
  split
  · exact ⟨hc.session, hc.seq, by show (0 : Nat) < _; omega, by show ye 0; unfold ye; decide, by show ye 0; unfold ye; decide⟩
  · exact ⟨hc.session, hc.seq, h.1, h.2.1, h.2.2⟩
theorem yt {e : Int} (hc : c.wf) : (xa c e).wf := ⟨hc.session, hc.seq, by show (0 : Nat) < _; omega, by show ye 0; unfold ye; decide, by show ye 0; unfold ye; decide⟩
theorem zCP (h : QOk now cnt bs ls) (hc : cnt ≤ 1000000000) : ∀ x ∈ ls, x.id < 18446744073709551616 ∧ ye x.amount ∧ ye x.until_ := fun x hx => by
  have h0 := h.lok x hx
  have h1 := h.sums x.key
  have h2 := zAS (k := x.key) (List.singleton_sublist.2 hx) h.pos
  have h3 := h.time
  simp only [yN, if_true] at h2
  unfold ye
  omega
theorem zIE (h : LOkR now cnt bs ls rs) (hr : QRel kb kl bs ls) (hc : c.wf) (h1 : zHg now cnt kb kl c r cnt' kb' kl') (h2 : zHs now cnt bs ls c s cnt2 bs' ls') :
    r = s ∧ cnt' = cnt2 ∧ QRel kb' kl' bs' ls' ∧ QOk now cnt2 bs' ls' ∧ QSrt bs' ∧ r.wf ∧ cnt2 ≤ cnt + 1 := by
  have ho := h.q
  have hcn := h.n
  have ht := ho.time
  rcases h1 with ⟨o, h1⟩ | ⟨o, x, e, e1, x1, h1⟩ | ⟨o, x, e, k1, h1⟩ | ⟨o, x, e, k1, h1⟩ | ⟨o, h1⟩ <;> rcases h2 with ⟨p, h2⟩ | ⟨p, y, f, f1, y1, h2⟩ | ⟨p, y, f, k2, h2⟩ | ⟨p, y, f, k2, h2⟩ | ⟨p, h2⟩ <;> first | (exfalso; omega) | skip
  · obtain ⟨rfl, rfl, rfl, rfl⟩ := h1
    obtain ⟨rfl, rfl, rfl, rfl⟩ := h2
    have e : zG6 c (xq c.key c.amount kb) (z4 c.key kl') = zG6 c (zDx c.key c.amount bs) (xN c.key ls') := by rw [zEu ho hr, hr.lent]
    refine ⟨e, rfl, QRel.set ho hr _ _, ho.set _ _ hc.amount, h.s.set _ _, ?_, Nat.le_succ _⟩
    rw [e]
    have hb := ho.lent0 c.key
    refine ⟨hc.session, hc.seq, by show (0 : Nat) < _; omega, ?_, by show ye 0; unfold ye; decide⟩
    show ye (if _ then _ else _)
    unfold ye
    split <;> omega
  · obtain ⟨rfl, rfl, rfl, rfl⟩ := h1
    obtain ⟨rfl, rfl, rfl, rfl⟩ := h2
    have ee : e = f := e1.trans ((zG3 ho hr _ _ _ _).trans f1.symm)
    subst ee
    have xx : x = y := x1.trans y1.symm
    subst xx
    refine ⟨rfl, rfl, QRel.lend ho hr (fun h0 => by rw [x1]; unfold jA; rw [if_pos h0]), ?_, h.s, ?_, ?_⟩
    · rw [x1]; exact ho.lend f1
    · by_cases h0 : e = 0
      · refine jM hc (zDK hcn hc.amount ?_ x x1)
        have := (zDF (f1.symm.trans h0)).1.2.2.2
        unfold yG at this
        unfold ye; omega
      · unfold kc; rw [if_pos h0]; exact yt hc
    · unfold zAc; split <;> omega
  · obtain ⟨rfl, rfl, rfl⟩ := h1
    obtain ⟨rfl, rfl, rfl⟩ := h2
    obtain ⟨rfl, rfl, q1, q2⟩ := zFF ho hr k1 k2
    refine ⟨rfl, rfl, q1, q2, h.s, ?_, Nat.le_succ _⟩
    by_cases h0 : e = 0
    · refine jM hc ?_
      rcases k2 with q | q | ⟨_, k, hk, _, _, q | ⟨_, _, q3, q4⟩⟩
      · rw [q.2.1] at h0; cases h0
      · rw [q.2.2.1] at h0; cases h0
      · rw [q.2.1] at h0; cases h0
      · exact zCP q2 hcn x (by rw [q4]; exact List.mem_of_getElem? (by rw [List.getElem?_set_self (by omega)]))
    · unfold kc; rw [if_pos h0]; exact yt hc
  · obtain ⟨rfl, rfl, rfl⟩ := h1
    obtain ⟨rfl, rfl, rfl⟩ := h2
    obtain ⟨rfl, rfl, q1, q2⟩ := zGP ho hr k1 k2
    refine ⟨rfl, rfl, q1, q2, h.s, ?_, Nat.le_succ _⟩
    by_cases h0 : e = 0
    · refine jM hc ?_
      rcases k2 with q | ⟨k, hk, _, _, _, q3, _⟩
      · rw [q.2.1] at h0; cases h0
      · rw [q3]; exact zCP ho hcn _ (yH hk)
    · unfold kc; rw [if_pos h0]; exact yt hc
  · obtain ⟨rfl, rfl, rfl, rfl⟩ := h1
    obtain ⟨rfl, rfl, rfl, rfl⟩ := h2
    exact ⟨rfl, rfl, hr, ho, h.s, yt hc, Nat.le_succ _⟩
end
def xB (c : CmdD) (q : RepD × Int) (r : RepD) : Prop :=
  (¬ c.ok ∧ r = xa c 2) ∨ (c.ok ∧ c.session = 0 ∧ r = xa c (if c.op = 5 then 0 else 1)) ∨ (c.ok ∧ c.session ≠ 0 ∧ c.seq = 0 ∧ r = xa c 18)
  ∨ ((c.ok ∧ c.session ≠ 0 ∧ c.seq ≠ 0) ∧ q.2 ≠ 8 ∧ r = if q.2 = 0 then q.1 else xa c (if q.2 = 13 then 18 else q.2))
def GoR (c : CmdD) (q : RepD × Int) : Prop := (c.ok ∧ c.session ≠ 0 ∧ c.seq ≠ 0) ∧ q.2 = 8
def DoK (now : Int) (cnt : Nat) (kb : List (ByteArray × Int)) (kl : List (Nat × LeaD)) (kr : List (Nat × RepD)) (c : CmdD) (r : RepD) (did : Bool) (cnt' : Nat) (kb' : List (ByteArray × Int)) (kl' : List (Nat × LeaD)) (kr' : List (Nat × RepD)) : Prop :=
  (xB c (zy kr c.session c.seq) r ∧ did = false ∧ cnt' = cnt ∧ kb' = kb ∧ kl' = kl ∧ kr' = kr)
  ∨ (GoR c (zy kr c.session c.seq) ∧ zHg now cnt kb kl c r cnt' kb' kl' ∧ did = true ∧ kr' = kj kr r)
def DoR (now : Int) (cnt : Nat) (bs : List BudD) (ls : List LeaD) (rs : List RepD) (c : CmdD) (r : RepD) (did : Bool) (cnt' : Nat) (bs' : List BudD) (ls' : List LeaD) (rs' : List RepD) : Prop :=
  (xB c (zy (KR rs) c.session c.seq) r ∧ did = false ∧ cnt' = cnt ∧ bs' = bs ∧ ls' = ls ∧ rs' = rs)
  ∨ (GoR c (zy (KR rs) c.session c.seq) ∧ zHs now cnt bs ls c r cnt' bs' ls' ∧ did = true ∧ rs' = zAg rs r)
theorem zED {c : CmdD} {q : RepD × Int} {r s : RepD} (h1 : xB c q r) (h2 : xB c q s) : r = s := by
  rcases h1 with h1 | h1 | h1 | h1 <;> rcases h2 with h2 | h2 | h2 | h2
  all_goals first
    | exact h1.2.trans h2.2.symm
    | exact h1.2.2.trans h2.2.2.symm
    | exact h1.2.2.2.trans h2.2.2.2.symm
    | exact absurd h2.1 h1.1
    | exact absurd h1.1 h2.1
    | exact absurd h2.1.1 h1.1
    | exact absurd h1.1.1 h2.1
    | exact absurd h1.2.1 h2.2.1
    | exact absurd h2.2.1 h1.2.1
    | exact absurd h1.2.1 h2.1.2.1
    | exact absurd h2.2.1 h1.1.2.1
    | exact absurd h1.2.2.1 h2.1.2.2
    | exact absurd h2.2.2.1 h1.1.2.2
theorem zCI {c : CmdD} {q : RepD × Int} {r : RepD} (h1 : xB c q r) (h2 : GoR c q) : False := by
  rcases h1 with h1 | h1 | h1 | h1
  · exact h1.1 h2.1.1
  · exact h2.1.2.1 h1.2.1
  · exact h2.1.2.2 h1.2.2.1
  · exact h1.2.1 h2.2
theorem zGm {rs : List RepD} {s q : Nat} {x : RepD} (h : zy (KR rs) s q = (x, 0)) : x ∈ rs := by
  unfold zy at h
  split at h
  · cases h
  · split at h
    · split at h <;> cases h
    · rename_i r hg
      split at h
      · cases h
      · split at h
        · cases h
        · cases h; exact (zC9 hg).1
section
variable {now : Int} {cnt cnt' cnt2 : Nat} {kb kb' : List (ByteArray × Int)} {kl kl' : List (Nat × LeaD)} {kr kr' : List (Nat × RepD)} {bs bs' : List BudD} {ls ls' : List LeaD} {rs rs' : List RepD} {c : CmdD} {r s : RepD} {did did2 : Bool}
theorem zFA (hc : c.wf) (hw : ∀ r ∈ rs, r.wf) (h : xB c (zy (KR rs) c.session c.seq) r) : r.wf := by
  rcases h with h | h | h | h
  · rw [h.2]; exact yt hc
  · rw [h.2.2]; exact yt hc
  · rw [h.2.2.2]; exact yt hc
  · rw [h.2.2]
    split
    · rename_i h0
      exact hw _ (zGm (s := c.session) (q := c.seq) (Prod.ext rfl h0))
    · exact yt hc
theorem zFB (ha : ∀ l ∈ ls, l.session < 18446744073709551616) (hc : c.wf) (h : zHs now cnt bs ls c s cnt2 bs' ls') : ∀ l ∈ ls', l.session < 18446744073709551616 := by
  rcases h with h | ⟨_, x, e, _, h2, _, _, _, h3⟩ | ⟨_, x, e, h1, _⟩ | ⟨_, x, e, h1, _⟩ | h
  · rw [h.2.2.2.2]; exact ha
  · intro l hl
    rw [h3] at hl
    unfold zBX at hl
    split at hl
    · rename_i h0
      rcases List.mem_append.1 hl with hl | hl
      · exact ha l hl
      · rw [List.mem_singleton.1 hl, h2, jA, if_pos h0]; exact hc.session
    · exact ha l hl
  · rcases h1 with h1 | h1 | ⟨_, k, hk, _, _, h1 | h1⟩
    · rw [h1.2.2.2]; exact ha
    · rw [h1.2.2.2.2]; exact ha
    · rw [h1.2.2.2]; exact ha
    · rw [h1.2.2.2]; intro l hl
      rcases List.mem_or_eq_of_mem_set hl with hl | hl
      · exact ha l hl
      · rw [hl, h1.2.2.1]; exact ha (zG ls k) (yH hk)
  · rcases h1 with h1 | ⟨k, hk, _, _, _, _, h1⟩
    · rw [h1.2.2.2]; exact ha
    · rw [h1]; intro l hl
      rcases List.mem_append.1 hl with hl | hl
      · exact ha l (List.mem_of_mem_take hl)
      · exact ha l (List.mem_of_mem_drop hl)
  · rw [h.2.2.2.2]; exact ha
theorem zJa (h : LOkR now cnt bs ls rs) (hr : LRel kb kl kr bs ls rs) (hc : c.wf) (hn : cnt < 1000000000) (h1 : DoK now cnt kb kl kr c r did cnt' kb' kl' kr') (h2 : DoR now cnt bs ls rs c s did2 cnt2 bs' ls' rs') :
    r = s ∧ did = did2 ∧ cnt' = cnt2 ∧ LRel kb' kl' kr' bs' ls' rs' ∧ LOkR now cnt2 bs' ls' rs' ∧ r.wf ∧ cnt2 ≤ cnt + 1 := by
  have hf := zDB h.c hr.c c.session c.seq
  rcases h1 with ⟨h1, rfl, rfl, rfl, rfl, rfl⟩ | ⟨h1, t1, rfl, rfl⟩ <;> rcases h2 with ⟨h2, rfl, rfl, rfl, rfl, rfl⟩ | ⟨h2, t2, rfl, rfl⟩
  · rw [hf] at h1
    obtain rfl := zED h1 h2
    exact ⟨rfl, rfl, rfl, hr, h, zFA hc h.w h1, Nat.le_succ _⟩
  · rw [hf] at h1; exact (zCI h1 h2).elim
  · rw [hf] at h1; exact (zCI h2 h1).elim
  · obtain ⟨rfl, rfl, q1, q2, q3, q4, q5⟩ := zIE h hr.q hc t1 t2
    refine ⟨rfl, rfl, rfl, ⟨q1, zGH h.c hr.c r⟩, ⟨q2, q3, zGI h.c r, fun x hx => ?_, by omega, zFB h.a hc t2⟩, q4, q5⟩
    rcases zFP rs r x hx with k | k
    · exact h.w x k
    · rw [k]; exact q4
end
theorem LOkR.start : LOkR 0 0 [] [] [] := ⟨QOk.start, QSrt.start, COk.start, by simp, by omega, by simp⟩
theorem LRel.start : LRel [] [] [] [] [] [] := ⟨QRel.start, CRel.start⟩
end Go.Proofs.Ytcdiehplbmkmeaa
