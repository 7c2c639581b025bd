import Derived.Test.YtcdiehplbmkmeaaGreatLinP
import Derived.Test.YtcdiehplbmkmeaaGreatLedR
import Derived.Test.YtcdiehplbmkmeaaGreatFwZ
set_option linter.unusedSectionVars false
set_option linter.unusedSimpArgs false
set_option linter.unusedVariables false
set_option maxRecDepth 10000
namespace Go.Proofs.YtcdiehplbmkmeaaGreat
open Go Go.Sc Go.Proofs
theorem zHj (now : Int) (cnt : Nat) (kb : List (ByteArray × Int)) (kl : List (Nat × LeaD)) (c : CmdD) : ∃ r cnt' kb' kl', zHe now cnt kb kl c r cnt' kb' kl' := by
  by_cases h1 : c.op = 1
  · exact ⟨_, _, _, _, .inl ⟨h1, rfl, rfl, rfl, rfl⟩⟩
  · by_cases h2 : c.op = 2
    · exact ⟨_, _, _, _, .inr (.inl ⟨h2, _, _, rfl, rfl, rfl, rfl, rfl, rfl⟩)⟩
    · by_cases h3 : c.op = 3
      · by_cases hs : yV c.span
        · by_cases hg : ∀ l, zf c.lease kl = some l → l.session ≠ c.session
          · exact ⟨_, _, _, _, .inr (.inr (.inl ⟨h3, _, _, .inr (.inl ⟨hs, hg, rfl, rfl, rfl⟩), rfl, rfl, rfl⟩))⟩
          · obtain ⟨l, hg⟩ := Classical.not_forall.1 hg
            obtain ⟨hl, hg⟩ := Classical.not_imp.1 hg
            have hg := Decidable.not_not.1 hg
            by_cases hb : (zf l.key kb).getD 0 < yE l.key kl
            · exact ⟨_, _, _, _, .inr (.inr (.inl ⟨h3, _, _, .inr (.inr ⟨hs, l, hl, hg, .inl ⟨hb, rfl, rfl, rfl⟩⟩), rfl, rfl, rfl⟩))⟩
            · exact ⟨_, _, _, _, .inr (.inr (.inl ⟨h3, _, _, .inr (.inr ⟨hs, l, hl, hg, .inr ⟨Int.not_lt.1 hb, rfl, rfl, rfl⟩⟩), rfl, rfl, rfl⟩))⟩
        · exact ⟨_, _, _, _, .inr (.inr (.inl ⟨h3, _, _, .inl ⟨hs, rfl, rfl, rfl⟩, rfl, rfl, rfl⟩))⟩
      · by_cases h4 : c.op = 4
        · by_cases hg : ∀ l, zf c.lease kl = some l → l.session ≠ c.session
          · exact ⟨_, _, _, _, .inr (.inr (.inr (.inl ⟨h4, _, _, .inl ⟨hg, rfl, rfl, rfl⟩, rfl, rfl, rfl⟩)))⟩
          · obtain ⟨l, hg⟩ := Classical.not_forall.1 hg
            obtain ⟨hl, hg⟩ := Classical.not_imp.1 hg
            exact ⟨_, _, _, _, .inr (.inr (.inr (.inl ⟨h4, _, _, .inr ⟨l, hl, Decidable.not_not.1 hg, rfl, rfl, rfl⟩, rfl, rfl, rfl⟩)))⟩
        · exact ⟨_, _, _, _, .inr (.inr (.inr (.inr ⟨⟨⟨h1, h2⟩, h3, h4⟩, rfl, rfl, rfl, rfl⟩)))⟩
theorem LRel.own (bs : List BudD) (ls : List LeaD) (rs : List RepD) : LRel (KB bs) (KL ls) (KR rs) bs ls rs := ⟨⟨.refl _, .refl _⟩, .refl _⟩
theorem LOkR.doF {t : RL} (h : LOkR t.now t.cnt t.bs t.ls t.rs) {c : CmdD} (hc : c.wf) (hn : t.cnt < 1000000000) : LOkR t.now (doF t c).2.cnt (doF t c).2.bs (doF t c).2.ls (doF t c).2.rs ∧ (doF t c).1.1.wf := by
  obtain ⟨r, cnt', kb', kl', hk⟩ := zHj t.now t.cnt (KB t.bs) (KL t.ls) c
  have h2 := (zGc t c).1
  have hr := LRel.own t.bs t.ls t.rs
  rcases zEY t c with ⟨s, _, h1⟩ | ⟨_, h1⟩
  · have q := zER h hr hc hn (.inl ⟨h1, rfl, rfl, rfl, rfl, rfl⟩) h2
    exact ⟨q.2.2.2.2.1, by rw [← q.1]; exact q.2.2.2.2.2.1⟩
  · have q := zER h hr hc hn (.inr ⟨h1, hk, rfl, rfl⟩) h2
    exact ⟨q.2.2.2.2.1, by rw [← q.1]; exact q.2.2.2.2.2.1⟩
theorem LOkR.passF {t : RL} (h : LOkR t.now t.cnt t.bs t.ls t.rs) {d : Int} (hd : y6 d) : LOkR (passF t d).now (passF t d).cnt (passF t d).bs (passF t d).ls (passF t d).rs :=
  ⟨h.q.pass d hd, h.s, h.c, h.w, h.n, fun l hl => h.a l (by unfold Go.Proofs.YtcdiehplbmkmeaaGreat.passF jL at hl; dsimp only at hl; split at hl; exact (List.mem_filter.1 hl).1; exact hl)⟩
theorem zId {t : RL} {c : CallD} (h : c.look = true) : xE t c = (decide (¬ (0 ≤ c.fin ∧ (yN c.key t.bs ≠ c.cap ∨ yD c.key t.ls ≠ c.lent))), t) := by
  unfold xE
  rw [if_pos h]
  congr 1
  refine decide_eq_decide.2 ⟨fun q k => ?_, fun q => ?_⟩
  · rcases q with q | q
    · omega
    · rcases k.2 with k | k
      · exact k q.1.symm
      · exact k q.2.symm
  · by_cases hf : c.fin < 0
    · exact .inl hf
    · exact .inr ⟨Decidable.by_contra fun k => q ⟨by omega, .inl fun e => k e.symm⟩, Decidable.by_contra fun k => q ⟨by omega, .inr fun e => k e.symm⟩⟩
theorem zHd {t t2 : RL} {c : CallD} {r : RepD} {did : Bool} (h : ¬ c.look = true) (hd : doF t c.cmd = ((r, did), t2)) : xE t c = (decide (¬ (0 ≤ c.fin ∧ ¬ (r = c.reply))), t2) := by
  unfold xE
  rw [if_neg h, hd]
  congr 1
  refine decide_eq_decide.2 ⟨fun q k => ?_, fun q => ?_⟩
  · rcases q with q | q
    · omega
    · exact k.2 q
  · by_cases hf : c.fin < 0
    · exact .inl hf
    · exact .inr (Decidable.by_contra fun k => q ⟨by omega, k⟩)
theorem mvT {l : List CallD} {s : LinS} {m : MovD} (c : ¬ ((((l.length : Nat) : Int) ≤ m.call ∨ m.delta < 0) ∨ 1099511627776 < m.delta)) (h0 : 0 ≤ m.call) (h : zJ s.done m.call.toNat = false ∧ ¬ x4 l s.done (zJ l m.call.toNat)) (he : ¬ yT s.t.now m.delta ≠ 0) {p : Prop} [Decidable p] {t2 : RL}
    (hp : xE (passF s.t m.delta) (zJ l m.call.toNat) = (decide (¬ p), t2)) : (p → zy l s m = (18, ⟨t2, s.done.set m.call.toNat true⟩)) ∧ (¬ p → zy l s m = (0, ⟨t2, s.done.set m.call.toNat true⟩)) := by
  rw [mvC c h0 h he, hp]
  exact ⟨fun q => by rw [if_neg]; simp [q], fun q => by rw [if_pos]; simp [q]⟩
section
variable {l : List CallD} {t : RL} {dn : List Bool} {m : MovD}
theorem zJg (c : ¬ ((((l.length : Nat) : Int) ≤ m.call ∨ m.delta < 0) ∨ 1099511627776 < m.delta)) (h : 0 ≤ m.call → zJ dn m.call.toNat = false ∧ ¬ x4 l dn (zJ l m.call.toNat)) (hc : yT t.now m.delta ≠ 0 ∨ m.call < 0) : Vi (yT t.now m.delta) = Vi (zy l ⟨t, dn⟩ m).1 := by
  by_cases he : yT t.now m.delta ≠ 0
  · exact jH (mvE (s := ⟨t, dn⟩) c h he)
  · rw [mvN (s := ⟨t, dn⟩) c (by rcases hc with q | q; exact absurd q he; omega) he, Decidable.not_not.1 he]
theorem zJ4 (c : ¬ ((((l.length : Nat) : Int) ≤ m.call ∨ m.delta < 0) ∨ 1099511627776 < m.delta)) (h : 0 ≤ m.call → zJ dn m.call.toNat = false ∧ ¬ x4 l dn (zJ l m.call.toNat)) (hc : yT t.now m.delta ≠ 0 ∨ m.call < 0) : (zy l ⟨t, dn⟩ m).1 = 0 → (zy l ⟨t, dn⟩ m).2 = ⟨passF t m.delta, dn⟩ ∧ True := by
  by_cases he : yT t.now m.delta ≠ 0
  · exact zAz (mvE (s := ⟨t, dn⟩) c h he) he
  · rw [mvN (s := ⟨t, dn⟩) c (by rcases hc with q | q; exact absurd q he; omega) he]; exact fun _ => ⟨rfl, trivial⟩
end
theorem zIT {c : CallD} (h2 : ¬ (c.beg < 0 ∨ (0 ≤ c.fin ∧ c.fin < c.beg))) (h3 : ¬ (c.look = true ∧ ¬ (c.cmd = ({ session := 0, seq := 0, op := 0, key := (⟨#[]⟩ : ByteArray), amount := 0, span := 0, lease := 0 } : CmdD))))
    (h4 : ¬ ((!c.look) = true ∧ (((¬ c.cmd.ok ∨ ((c.cmd.session : Nat) : Int) = ((0 : Nat) : Int)) ∨ ((c.cmd.seq : Nat) : Int) = ((0 : Nat) : Int)) ∨ c.key ≠ (⟨#[]⟩ : ByteArray)))) : c.single := by
  refine ⟨h2, ?_⟩
  by_cases h : c.look = true
  · rw [if_pos h]; exact Decidable.not_not.1 fun q => h3 ⟨h, q⟩
  · rw [if_neg h]
    have hl : (!c.look) = true := by cases hh : c.look <;> simp_all
    refine ⟨⟨⟨Decidable.by_contra fun q => h4 ⟨hl, .inl (.inl (.inl q))⟩, fun q => h4 ⟨hl, .inl (.inl (.inr (by omega)))⟩⟩, fun q => h4 ⟨hl, .inl (.inr (by omega))⟩⟩, Decidable.by_contra fun q => h4 ⟨hl, .inr q⟩⟩
theorem zGy {c : CallD} (h : c.look = true ∧ ¬ (c.cmd = ({ session := 0, seq := 0, op := 0, key := (⟨#[]⟩ : ByteArray), amount := 0, span := 0, lease := 0 } : CmdD))) : ¬ c.single := fun q => by
  have := q.2; rw [if_pos h.1] at this; exact h.2 this
theorem zGK {c : CallD} (h : (!c.look) = true ∧ (((¬ c.cmd.ok ∨ ((c.cmd.session : Nat) : Int) = ((0 : Nat) : Int)) ∨ ((c.cmd.seq : Nat) : Int) = ((0 : Nat) : Int)) ∨ c.key ≠ (⟨#[]⟩ : ByteArray))) : ¬ c.single := fun q => by
  have hq := q.2
  rw [if_neg (by have := h.1; cases hh : c.look <;> simp_all)] at hq
  rcases h.2 with ((k | k) | k) | k
  · exact k hq.1.1.1
  · exact hq.1.1.2 (by omega)
  · exact hq.1.2 (by omega)
  · exact k hq.2
theorem zCk {l : List CallD} {i : Nat} (hi : i < l.length) (h : ¬ ((zJ l i).single ∧ zB5 (xg (l.take i) (zJ l i).edge) (zJ l i))) : ¬ xd l := fun q => h (q i hi)
theorem zFC {l : List CallD} {k : Int} (h0 : 0 ≤ k) (hk : k.toNat < l.length) (e : Int) : xg (l.take (k + 1).toNat) e = if (zJ l k.toNat).edge = e then some (zJ l k.toNat) else xg (l.take k.toNat) e := by
  rw [show (k + 1).toNat = k.toNat + 1 by omega, yJ hk, zA2]
theorem zHy {p c : CallD} {o : Option CallD} (h : o = some p) (h2 : ¬ (p.fin < 0 ∨ c.beg ≤ p.fin)) : zB5 o c := by rw [h]; exact h2
theorem zFz (v : Value) (l : List CallD) (w : World) (hcw : ∀ c ∈ l, c.wf) (hl : l.length ≤ 10000000) (hv : Rd w [] (Res.sl v l.length (l.flatMap CallD.cells))) : Rets Tryz.prog 9 #[v] w fun u_ w' => u_ = .bool (decide (xd l)) ∧ Own w [] [] w' := by
  refine zd Tryz.func9 rfl Tryz.ntmps9 (Own.start w) ?_
  refine zB (zE rfl (zA (zK (zB (zE rfl (zA (zX ?_)))))))
  refine yu (fun (i : Nat) => [(0, v), (3, Vj i)]) (fun (i : Nat) => i ≤ l.length ∧ SoundTo l i) (fun (i : Nat) => []) (fun (i : Nat) => l.length - i) (fun w' hw => ⟨0, ⟨rfl, rfl, trivial⟩, ⟨Nat.zero_le _, SoundTo.start l⟩, hw⟩) (fun i g hΦ => ?_)
  have hi := hΦ.1
  have hS := hΦ.2
  refine zK (zB (zC rfl (zC rfl (yM (pR hv) rfl rfl (yA rfl rfl rfl (zA (zT rfl (fun c1 => ?_) (fun c1 => ?_))))))))
  ·
   have hil : i < l.length := by omega
   refine zI (zK (zX (zB (zC rfl (zC rfl (zG (pR hv) 21 i rfl rfl rfl (by omega) rfl (xm (pR hv) 21 i (off := yU v + i * 21) (fun _ => rfl) rfl rfl (by omega) rfl (yG (v := .agg #[Vi 0, .bool false, .bool false, Vn 0, Vn 0, Vi 0, .string (⟨#[]⟩ : ByteArray), Vi 0, Vi 0, Vn 0, .string (⟨#[]⟩ : ByteArray), Vi 0, Vi 0, Vn 0, Vn 0, Vi 0, Vn 0, Vi 0, Vi 0, Vi 0, Vi 0]) (by kernel_rfl) rfl (fun b4 => zi 0 rfl rfl rfl (zx rfl) rfl (zA (zK (zB ?_))))))))))))
   refine zM (o := 11) rfl rfl (zU 0 (v := Vi ((zJ l i).beg)) rfl rfl rfl rfl (yA rfl rfl rfl (zC rfl (yn (q := ((zJ l i).beg) < 0) 10 3 [29, 28, 27, 26, 25, 24, 23, 22, 21, 20] ((0 ≤ ((zJ l i).fin)) ∧ (((zJ l i).fin) < ((zJ l i).beg))) rfl rfl rfl rfl rfl rfl trivial rfl (fun h5_3 => ?_) (fun g5_14 => ?_)))))
   ·
    refine zQ rfl (gF h5_3) (zM (o := 12) rfl rfl (zQ rfl (gF h5_3) (zU 0 (v := Vi ((zJ l i).fin)) rfl rfl rfl rfl (zQ rfl (gF h5_3) (yQ rfl rfl rfl (zQ rfl (gF h5_3) (zC rfl (z7 (q := 0 ≤ ((zJ l i).fin)) 5 7 [28, 27, 26, 25, 24] (((zJ l i).fin) < ((zJ l i).beg)) rfl rfl rfl rfl rfl rfl ⟨_, rfl, rfl, gF h5_3⟩ rfl (fun h5_7 => ?_) (fun g5_13 => ?_)))))))))
    ·
     refine zQ rfl (gT h5_7) (zM (o := 12) rfl rfl (zQ rfl (gT h5_7) (zU 0 (v := Vi ((zJ l i).fin)) rfl rfl rfl rfl (zQ rfl (gT h5_7) (zM (o := 11) rfl rfl (zQ rfl (gT h5_7) (zU 0 (v := Vi ((zJ l i).beg)) rfl rfl rfl rfl (zQ rfl (gT h5_7) (yA rfl rfl rfl ?_)))))))))
     exact yH rfl (fun _ hw => hw)
    exact yH rfl (fun _ hw => hw)
   refine zA (zT rfl (fun c2 => ?_) (fun c2 => ?_))
   ·
    refine zB (zE rfl (zA ?_))
    exact zN (zu (v := .bool false) rfl rfl (fun w' hw => ⟨(by congr 1; exact (decide_eq_false (zCk hil fun q => q.1.1 c2)).symm), hw.drop⟩))
   ·
    refine zI (zK (zB (zM (o := 1) rfl rfl (zU 0 (v := .bool ((zJ l i).look)) rfl rfl rfl rfl (zC rfl (z7 (q := ((zJ l i).look) = true) 4 2 [37, 36, 35, 34] (¬ (((zJ l i).cmd) = ({ session := 0, seq := 0, op := 0, key := (⟨#[]⟩ : ByteArray), amount := 0, span := 0, lease := 0 } : CmdD))) rfl rfl (yt _) rfl rfl rfl trivial rfl (fun h7_2 => ?_) (fun g7_7 => ?_)))))))
    ·
     refine zQ rfl (bT h7_2) (zM (o := 3) rfl rfl (zQ rfl (bT h7_2) (jS 0 (CmdD.cells ((zJ l i).cmd)) rfl rfl (xn 3 rfl) (by kernel_rfl) rfl (zQ rfl (bT h7_2) (yB (cs := [Vn 0, Vn 0, Vi 0, .string (⟨#[]⟩ : ByteArray), Vi 0, Vi 0, Vn 0]) (z := [Vn 0, Vn 0, Vi 0, .string (⟨#[]⟩ : ByteArray), Vi 0, Vi 0, Vn 0]) (pl := [(0, 1), (1, 1), (2, 1), (3, 1), (4, 1), (5, 1), (6, 1)]) (by kernel_rfl) (by kernel_rfl) rfl (zQ rfl (bT h7_2) (z9 rfl (zHJ (zGu ((zJ l i).cmd) ({ session := 0, seq := 0, op := 0, key := (⟨#[]⟩ : ByteArray), amount := 0, span := 0, lease := 0 } : CmdD)) (by kernel_rfl) (by kernel_rfl) rfl rfl rfl rfl) ?_)))))))
     exact yH rfl (fun _ hw => hw)
    refine zA (zT rfl (fun c3 => ?_) (fun c3 => ?_))
    ·
     refine zB (zE rfl (zA ?_))
     exact zN (zu (v := .bool false) rfl rfl (fun w' hw => ⟨(by congr 1; exact (decide_eq_false (zCk hil fun q => zGy c3 q.1)).symm), hw.drop⟩))
    ·
     refine zI (zK (zB (zM (o := 1) rfl rfl (zU 0 (v := .bool ((zJ l i).look)) rfl rfl rfl rfl (kL (b := (zJ l i).look) rfl rfl (zC rfl (z7 (q := (!((zJ l i).look)) = true) 21 3 [63, 62, 61, 60, 59, 58, 57, 56, 55, 54, 53, 52, 51, 50, 49, 48, 47, 46, 45, 44, 43] ((((¬ (((zJ l i).cmd).ok)) ∨ (((((zJ l i).cmd).session : Nat) : Int) = ((0 : Nat) : Int))) ∨ (((((zJ l i).cmd).seq : Nat) : Int) = ((0 : Nat) : Int))) ∨ (((zJ l i).key) ≠ (⟨#[]⟩ : ByteArray))) rfl rfl (yt _) rfl rfl rfl trivial rfl (fun h9_3 => ?_) (fun g9_25 => ?_))))))))
     ·
      refine zQ rfl (bT h9_3) (zM (o := 3) rfl rfl (zQ rfl (bT h9_3) (jS 0 (CmdD.cells ((zJ l i).cmd)) rfl rfl (xn 3 rfl) (by kernel_rfl) rfl (zQ rfl (bT h9_3) (zP rfl rfl (fun w' hw => (zDI ((zJ l i).cmd) w' (by have := (hcw _ (yR hil)).cmd.key; omega)).mono ?_))))))
      rintro _ w1 ⟨rfl, hO⟩
      refine (?_ : CL _ _ _ _ _ _ (Own w [] [Res.row b4 56 (CallD.cells (zJ l i))])) w1 (hw.frame0 hO)
      refine zQ rfl (bT h9_3) (xf (q := ((zJ l i).cmd).ok) rfl rfl (zQ rfl (bT h9_3) (zC rfl (yn (q := ¬ (((zJ l i).cmd).ok)) 4 8 [51, 50, 49, 48] (((((zJ l i).cmd).session : Nat) : Int) = ((0 : Nat) : Int)) rfl rfl rfl rfl rfl rfl ⟨_, rfl, rfl, (bT h9_3)⟩ rfl (fun h9_8 => ?_) (fun g9_13 => ?_)))))
      ·
       refine zQ rfl (gF h9_8) (zM (o := 3) rfl rfl (zQ rfl (gF h9_8) (zM (o := 0) rfl rfl (zQ rfl (gF h9_8) (zU 0 (v := Vn (((zJ l i).cmd).session)) rfl rfl rfl rfl (zQ rfl (gF h9_8) (yX rfl rfl rfl ?_)))))))
       exact yH rfl (fun _ hw => hw)
      refine zQ rfl (bT h9_3) (zC rfl (yn (q := (¬ (((zJ l i).cmd).ok)) ∨ (((((zJ l i).cmd).session : Nat) : Int) = ((0 : Nat) : Int))) 4 14 [57, 56, 55, 54] (((((zJ l i).cmd).seq : Nat) : Int) = ((0 : Nat) : Int)) rfl rfl rfl rfl rfl rfl ⟨_, rfl, rfl, (bT h9_3)⟩ rfl (fun h9_14 => ?_) (fun g9_19 => ?_)))
      ·
       refine zQ rfl (gF h9_14) (zM (o := 3) rfl rfl (zQ rfl (gF h9_14) (zM (o := 1) rfl rfl (zQ rfl (gF h9_14) (zU 0 (v := Vn (((zJ l i).cmd).seq)) rfl rfl rfl rfl (zQ rfl (gF h9_14) (yX rfl rfl rfl ?_)))))))
       exact yH rfl (fun _ hw => hw)
      refine zQ rfl (bT h9_3) (zC rfl (yn (q := ((¬ (((zJ l i).cmd).ok)) ∨ (((((zJ l i).cmd).session : Nat) : Int) = ((0 : Nat) : Int))) ∨ (((((zJ l i).cmd).seq : Nat) : Int) = ((0 : Nat) : Int))) 3 20 [62, 61, 60] (((zJ l i).key) ≠ (⟨#[]⟩ : ByteArray)) rfl rfl rfl rfl rfl rfl ⟨_, rfl, rfl, (bT h9_3)⟩ rfl (fun h9_20 => ?_) (fun g9_24 => ?_)))
      ·
       refine zQ rfl (gF h9_20) (zM (o := 10) rfl rfl (zQ rfl (gF h9_20) (zU 0 (v := .string ((zJ l i).key)) rfl rfl rfl rfl (zQ rfl (gF h9_20) (zEt rfl rfl rfl ?_)))))
       exact yH rfl (fun _ hw => hw)
      exact yH rfl (fun _ hw => hw)
     refine zA (zT rfl (fun c4 => ?_) (fun c4 => ?_))
     ·
      refine zB (zE rfl (zA ?_))
      exact zN (zu (v := .bool false) rfl rfl (fun w' hw => ⟨(by congr 1; exact (decide_eq_false (zCk hil fun q => zGK c4 q.1)).symm), hw.drop⟩))
     ·
      have hsg := zIT c2 c3 c4
      refine zI (zB (zC rfl (yO rfl rfl (zq (by omega)) rfl (zE rfl (zA (zX ?_))))))
      refine yu (fun (k : Int) => [(0, v), (3, Vj i), (4, .pointer (some ⟨b4, 0, none⟩)), (5, Vi k)]) (fun (k : Int) => (-1 ≤ k ∧ k < i) ∧ xg (l.take i) (zJ l i).edge = xg (l.take (k + 1).toNat) (zJ l i).edge) (fun (k : Int) => [Res.row b4 56 (CallD.cells (zJ l i))]) (fun (k : Int) => (k + 1).toNat) (fun w' hw => ⟨(i : Int) - 1, ⟨rfl, rfl, rfl, rfl, trivial⟩, ⟨by omega, by rw [show ((i : Int) - 1 + 1).toNat = i by omega]⟩, hw⟩) (fun k g hΦ => ?_)
      have hk := hΦ.1
      have hL := hΦ.2
      refine zK (zB (zC rfl (yQ rfl rfl rfl (zA (zT rfl (fun c5 => ?_) (fun c5 => ?_))))))
      ·
       have hkl : k.toNat < l.length := by omega
       have hls := zFC c5 hkl (zJ l i).edge
       refine zI (zK (zX (yy (by kernel_rfl) (by kernel_rfl) (zS rfl (zL) (zS rfl (zL) (zS rfl (z4 (pR hv) 21 ((k).toNat) rfl rfl (by omega) (by omega)) (zS rfl (zY (o := 0) rfl) (zS rfl (yL (pR hv) 21 ((k).toNat) 0 (off := yU v + ((k).toNat) * 21 + 0) (fun _ => rfl) rfl (by omega) (by omega) rfl) (zS rfl (zY (o := 0) rfl) (zS rfl (zj 0 (v := Vi ((zJ l i).edge)) rfl rfl rfl) (zS rfl (zLf rfl rfl) (kT ?_))))))))))))
       refine zT rfl (fun c6 => ?_) (fun c6 => ?_)
       ·
        have hlo : xg (l.take i) (zJ l i).edge = some (zJ l k.toNat) := by rw [hL, hls, if_pos c6]
        refine zK (yy (by kernel_rfl) (by kernel_rfl) (zS rfl (zL) (zS rfl (zL) (zS rfl (z4 (pR hv) 21 ((k).toNat) rfl rfl (by omega) (by omega)) (zS rfl (zY (o := 12) rfl) (zS rfl (yL (pR hv) 21 ((k).toNat) 12 (off := yU v + ((k).toNat) * 21 + 12) (fun _ => rfl) rfl (by omega) (by omega) rfl) (zS rfl (zBq rfl rfl) (zS rfl (zL) (zG0 (q := ((zJ l ((k).toNat)).fin) < 0) 8 6 [93, 92, 91, 90, 89, 88, 87, 86] (((zJ l i).beg) ≤ ((zJ l ((k).toNat)).fin)) rfl rfl rfl rfl rfl rfl trivial rfl (fun h15_6 => ?_) (fun g15_15 => ?_))))))))))
        ·
         refine yZ rfl (gF h15_6) (zS rfl (zY (o := 11) rfl) (yZ rfl (gF h15_6) (zS rfl (zj 0 (v := Vi ((zJ l i).beg)) rfl rfl rfl) (yZ rfl (gF h15_6) (zS rfl (zL) (yZ rfl (gF h15_6) (zS rfl (zL) (yZ rfl (gF h15_6) (zS rfl (z4 (pR hv) 21 ((k).toNat) rfl rfl (by omega) (by omega)) (yZ rfl (gF h15_6) (zS rfl (zY (o := 12) rfl) (yZ rfl (gF h15_6) ?_))))))))))))
         refine zS rfl (yL (pR hv) 21 ((k).toNat) 12 (off := yU v + ((k).toNat) * 21 + 12) (fun _ => rfl) rfl (by omega) (by omega) rfl) (yZ rfl (gF h15_6) (zS rfl (zAj rfl rfl) ?_))
         exact zC7 rfl
        refine kT (zT rfl (fun c7 => ?_) (fun c7 => ?_))
        ·
         refine zB (zE rfl (zA ?_))
         exact zN (zu (v := .bool false) rfl rfl (fun w' hw => ⟨(by congr 1; exact (decide_eq_false (zCk hil fun q => by have := q.2; rw [hlo] at this; exact this c7)).symm), hw.drop⟩))
        ·
         refine zI (z8 rfl (zb (zC rfl (zt rfl rfl (zq (by omega)) rfl (zE rfl ?_)))))
         exact ze (fun w' hw => ⟨i + 1, ⟨rfl, rfl, trivial⟩, ⟨hil, hS.next hsg (zHy hlo c7)⟩, hw.sel [] rfl (by decide), (by omega)⟩)
       ·
        refine zI (zb (zC rfl (yO rfl rfl (zq (by omega)) rfl (zE rfl ?_))))
        exact ze (fun w' hw => ⟨k - 1, ⟨rfl, rfl, rfl, rfl, trivial⟩, ⟨by omega, by rw [hL, hls, if_neg c6, show (k - 1 + 1).toNat = k.toNat by omega]⟩, hw, (by omega)⟩)
      ·
       refine z8 rfl (zb (zC rfl (zt rfl rfl (zq (by omega)) rfl (zE rfl ?_))))
       exact ze (fun w' hw => ⟨i + 1, ⟨rfl, rfl, trivial⟩, ⟨hil, hS.next hsg (by rw [hL, show (k + 1).toNat = 0 by omega]; trivial)⟩, hw.sel [] rfl (by decide), (by omega)⟩)
  ·
   refine z8 rfl (zB (zE rfl (zA ?_)))
   exact zN (zu (v := .bool true) rfl rfl (fun w' hw => ⟨(by congr 1; exact (decide_eq_true (show xd l by have e : i = l.length := (by omega); rw [e] at hS; exact hS)).symm), hw.drop⟩))
theorem zGU {S : List Nat} (s cnt ix : Nat) (now : Int) (bv lv rv dv v : Value) (dn : List Bool) (l : List CallD) (w : World) (hl : l.length ≤ 10000000) (hd : dn.length = l.length) (hin : Own w S [Res.row s 43 [Vi now, Vn cnt, bv, lv, rv, Vn ix, dv]] w) (hv : Rd w S (Res.sl v l.length (l.flatMap CallD.cells))) (hdv : Rd w S (Res.sl dv dn.length (dn.flatMap B1))) : Rets Tryz.prog 20 #[.pointer (some ⟨s, 0, none⟩), v] w fun u_ w' => u_ = .bool (decide (Whole l dn)) ∧ Own w S [Res.row s 43 [Vi now, Vn cnt, bv, lv, rv, Vn ix, dv]] w' := by
  refine zd Tryz.func20 rfl Tryz.ntmps20 hin ?_
  refine zB (zE rfl (zA (zK (zB (zE rfl (zA (zX ?_)))))))
  refine yu (fun (i : Nat) => [(0, .pointer (some ⟨s, 0, none⟩)), (1, v), (5, Vj i)]) (fun (i : Nat) => i ≤ l.length ∧ zBC l dn i) (fun (i : Nat) => [Res.row s 43 [Vi now, Vn cnt, bv, lv, rv, Vn ix, dv]]) (fun (i : Nat) => l.length - i) (fun w' hw => ⟨0, ⟨rfl, rfl, rfl, trivial⟩, ⟨Nat.zero_le _, fun j hj => absurd hj (Nat.not_lt_zero j)⟩, hw⟩) (fun i g hΦ => ?_)
  have hi := hΦ.1
  have hE := hΦ.2
  refine zK (zB (zC rfl (zC rfl (yM (pR hv) rfl rfl (yA rfl rfl rfl (zA (zT rfl (fun c1 => ?_) (fun c1 => ?_))))))))
  ·
   refine zI (zK (zX (zB (zC rfl (zC rfl (zG (pR hv) 21 i rfl rfl rfl (by omega) rfl (zM (o := 12) rfl rfl (zR (pR hv) 21 i 12 (off := yU v + i * 21 + 12) (fun _ => rfl) rfl (by omega) (by omega) rfl rfl (yQ rfl rfl rfl (zC rfl (z7 (q := 0 ≤ ((zJ l i).fin)) 8 6 [26, 25, 24, 23, 22, 21, 20, 19] ((!(zJ dn i)) = true) rfl rfl rfl rfl rfl rfl trivial rfl (fun h4_6 => ?_) (fun g4_15 => ?_))))))))))))
   ·
    refine zQ rfl (gT h4_6) (zC rfl (zQ rfl (gT h4_6) (zp rfl rfl (zQ rfl (gT h4_6) (zM (o := 6) rfl rfl (zQ rfl (gT h4_6) (zU 0 (v := dv) rfl rfl rfl rfl (zQ rfl (gT h4_6) (zC rfl (zQ rfl (gT h4_6) (zG (pR hdv) 1 i rfl rfl rfl (by omega) rfl (zQ rfl (gT h4_6) ?_))))))))))))
    refine zR (pR hdv) 1 i 0 (fun _ => rfl) rfl rfl (by omega) rfl rfl (zQ rfl (gT h4_6) (kL (b := (zJ dn i)) rfl rfl ?_))
    exact yH (yt _) (fun _ hw => hw)
   refine zA (zT rfl (fun c2 => ?_) (fun c2 => ?_))
   ·
    refine zB (zE rfl (zA ?_))
    exact zN (zu (v := .bool false) rfl rfl (fun w' hw => ⟨(by congr 1; exact (decide_eq_false (fun q : Whole l dn => by have := q i (by omega) c2.1; have := notFi.1 c2.2; simp_all)).symm), hw⟩))
   ·
    refine zI (zb (zC rfl (zt rfl rfl (zq (by omega)) rfl (zE rfl ?_))))
    exact ze (fun w' hw => ⟨i + 1, ⟨rfl, rfl, rfl, trivial⟩, ⟨by omega, zBV hE (fun q => c2 ⟨q.1, notFi.2 q.2⟩)⟩, hw, (by omega)⟩)
  ·
   refine z8 rfl (zB (zE rfl (zA ?_)))
   exact zN (zu (v := .bool true) rfl rfl (fun w' hw => ⟨(by congr 1; exact (decide_eq_true (show Whole l dn by have e : i = l.length := (by omega); rw [e] at hE; exact hE)).symm), hw⟩))
theorem zIk {S : List Nat} (s : Nat) (bv lv rv dv v : Value) (t : RL) (dn : List Bool) (l : List CallD) (m : MovD) (w : World) (h : LOkR t.now t.cnt t.bs t.ls t.rs) (hcw : ∀ c ∈ l, c.wf) (hn : t.cnt < 1000000000) (hl : l.length ≤ 10000000) (hd : dn.length = l.length) (hmd : y6 m.delta) (hin : Own w S [Res.row s 43 [Vi t.now, Vn t.cnt, bv, lv, rv, Vn 0, dv], Res.vec 105 2 bv t.bs.length (t.bs.flatMap BudD.cells), Res.vec 77 5 lv t.ls.length (t.ls.flatMap LeaD.cells), Res.vec 50 6 rv t.rs.length (t.rs.flatMap RepD.cells), Res.vec 4 1 dv dn.length (dn.flatMap B1)] w) (hv : Rd w S (Res.sl v l.length (l.flatMap CallD.cells))) : Rets Tryz.prog 22 #[.pointer (some ⟨s, 0, none⟩), v, .agg (MovD.cells m).toArray] w fun u_ w' => ∃ (bv' lv' rv' : Value) (t' : RL) (dn' : List Bool), u_ = Vi ((zy l ⟨t, dn⟩ m).1) ∧ ((zy l ⟨t, dn⟩ m).1 = 0 → dn' = (zy l ⟨t, dn⟩ m).2.done ∧ t' = (zy l ⟨t, dn⟩ m).2.t ∧ LOkR t'.now t'.cnt t'.bs t'.ls t'.rs) ∧ Own w S [Res.row s 43 [Vi t'.now, Vn t'.cnt, bv', lv', rv', Vn 0, dv], Res.vec 105 2 bv' t'.bs.length (t'.bs.flatMap BudD.cells), Res.vec 77 5 lv' t'.ls.length (t'.ls.flatMap LeaD.cells), Res.vec 50 6 rv' t'.rs.length (t'.rs.flatMap RepD.cells), Res.vec 4 1 dv dn'.length (dn'.flatMap B1)] w' := by
  refine zd Tryz.func22 rfl Tryz.ntmps22 hin ?_
  refine zB (yg rfl rfl (fun b5 => zE rfl (zA (zK (zB (zM (o := 0) rfl rfl (zU 5 (v := Vi m.call) rfl rfl rfl rfl (zC rfl (yM (pR hv) rfl rfl (yQ rfl rfl rfl (zC rfl (yn (q := ((l.length : Nat) : Int) ≤ m.call) 3 5 [23, 22, 21] (m.delta < 0) rfl rfl rfl rfl rfl rfl trivial rfl (fun h1_5 => ?_) (fun g1_9 => ?_)))))))))))))
  ·
   refine zQ rfl (gF h1_5) (zM (o := 1) rfl rfl (zQ rfl (gF h1_5) (zU 5 (v := Vi m.delta) rfl rfl rfl rfl (zQ rfl (gF h1_5) (yA rfl rfl rfl ?_)))))
   exact yH rfl (fun _ hw => hw)
  refine zC rfl (yn (q := (((l.length : Nat) : Int) ≤ m.call) ∨ (m.delta < 0)) 3 10 [28, 27, 26] (1099511627776 < m.delta) rfl rfl rfl rfl rfl rfl trivial rfl (fun h1_10 => ?_) (fun g1_14 => ?_))
  ·
   refine zQ rfl (gF h1_10) (zM (o := 1) rfl rfl (zQ rfl (gF h1_10) (zU 5 (v := Vi m.delta) rfl rfl rfl rfl (zQ rfl (gF h1_10) (xF rfl rfl rfl ?_)))))
   exact yH rfl (fun _ hw => hw)
  refine zA (zT rfl (fun c1 => ?_) (fun c1 => ?_))
  ·
   refine zB (zE rfl (zA ?_))
   exact zN (zu (v := Vi 1) rfl rfl (fun w' hw => ⟨bv, lv, rv, t, dn, (jH (mv1 c1)), zAz (mv1 c1) (by decide), hw.sel [0, 1, 2, 3, 4] rfl (by decide)⟩))
  ·
   refine zI (zJi ([(0, .pointer (some ⟨s, 0, none⟩)), (1, v), (5, .pointer (some ⟨b5, 0, none⟩))]) (0 ≤ m.call → zJ dn m.call.toNat = false ∧ ¬ x4 l dn (zJ l m.call.toNat)) ([Res.row s 43 [Vi t.now, Vn t.cnt, bv, lv, rv, Vn 0, dv], Res.vec 105 2 bv t.bs.length (t.bs.flatMap BudD.cells), Res.vec 77 5 lv t.ls.length (t.ls.flatMap LeaD.cells), Res.vec 50 6 rv t.rs.length (t.rs.flatMap RepD.cells), Res.vec 4 1 dv dn.length (dn.flatMap B1), Res.row b5 65 (MovD.cells m)]) ?_ (fun g hΦ => ?_))
   ·
    refine zB (zM (o := 0) rfl rfl (zU 5 (v := Vi m.call) rfl rfl rfl rfl (yQ rfl rfl rfl (zA (zT rfl (fun c2 => ?_) (fun c2 => ?_))))))
    ·
     have hcl : m.call.toNat < l.length := by omega
     have hcd : m.call.toNat < dn.length := by omega
     refine zK (yy (by kernel_rfl) (by kernel_rfl) (zS rfl (zL) (zS rfl (zn rfl) (zS rfl (zY (o := 6) rfl) (zS rfl (zj 0 (v := dv) rfl rfl rfl) (zS rfl (zY (o := 0) rfl) (zS rfl (zj 5 (v := Vi m.call) rfl rfl rfl) (zS rfl (z4 (pV 4 rfl) 1 ((m.call).toNat) rfl rfl (by omega) (by omega)) (zS rfl (yL (pV 4 rfl) 1 ((m.call).toNat) 0 (fun _ => rfl) rfl rfl (by omega) rfl) (kT (kp rfl (fun c3 => ?_) (fun c3 => ?_))))))))))))
     ·
      refine zB (zE rfl (zA ?_))
      exact zN (zu (v := Vi 9) rfl rfl (fun w' hw => ⟨bv, lv, rv, t, dn, (jH (mv9 c1 c2 c3)), zAz (mv9 c1 c2 c3) (by decide), hw.sel [0, 1, 2, 3, 4] rfl (by decide)⟩))
     ·
      refine zI (zB (zE rfl (zA (zX ?_))))
      refine yu (fun (i : Nat) => [(0, .pointer (some ⟨s, 0, none⟩)), (1, v), (5, .pointer (some ⟨b5, 0, none⟩)), (7, Vj i)]) (fun (i : Nat) => i ≤ l.length ∧ ¬ zBI l dn (zJ l m.call.toNat) i) (fun (i : Nat) => [Res.row s 43 [Vi t.now, Vn t.cnt, bv, lv, rv, Vn 0, dv], Res.vec 105 2 bv t.bs.length (t.bs.flatMap BudD.cells), Res.vec 77 5 lv t.ls.length (t.ls.flatMap LeaD.cells), Res.vec 50 6 rv t.rs.length (t.rs.flatMap RepD.cells), Res.vec 4 1 dv dn.length (dn.flatMap B1), Res.row b5 65 (MovD.cells m)]) (fun (i : Nat) => l.length - i) (fun w' hw => ⟨0, ⟨rfl, rfl, rfl, rfl, trivial⟩, ⟨Nat.zero_le _, fun ⟨j, hj, _⟩ => absurd hj (Nat.not_lt_zero j)⟩, hw⟩) (fun i g hΦ => ?_)
      have hi := hΦ.1
      have hE := hΦ.2
      refine zK (zB (zC rfl (zC rfl (yM (pR hv) rfl rfl (yA rfl rfl rfl (zA (zT rfl (fun c4 => ?_) (fun c4 => ?_))))))))
      ·
       refine zI (zK (zX (yy (by kernel_rfl) (by kernel_rfl) (zS rfl (zL) (zS rfl (zn rfl) (zS rfl (zY (o := 6) rfl) (zS rfl (zj 0 (v := dv) rfl rfl rfl) (zS rfl (zL) (zS rfl (z4 (pV 4 rfl) 1 i rfl rfl rfl (by omega)) (zS rfl (yL (pV 4 rfl) 1 i 0 (fun _ => rfl) rfl rfl (by omega) rfl) (zS rfl (zE1 (b := (zJ dn i)) rfl) (zS rfl (zL) ?_))))))))))))
       refine zBi (q := (!(zJ dn i)) = true) 6 8 [61, 60, 59, 58, 57, 56] (0 ≤ ((zJ l i).fin)) rfl rfl (yt _) rfl rfl rfl trivial rfl (fun h9_8 => ?_) (fun g9_15 => ?_)
       ·
        refine yZ rfl (bT h9_8) (zS rfl (zL) (yZ rfl (bT h9_8) (zS rfl (zL) (yZ rfl (bT h9_8) (zS rfl (z4 (pR hv) 21 i rfl rfl rfl (by omega)) (yZ rfl (bT h9_8) (zS rfl (zY (o := 12) rfl) (yZ rfl (bT h9_8) (zS rfl (yL (pR hv) 21 i 12 (off := yU v + i * 21 + 12) (fun _ => rfl) rfl (by omega) (by omega) rfl) (yZ rfl (bT h9_8) (zS rfl (zEv rfl rfl) ?_)))))))))))
        exact zC7 rfl
       refine zS rfl (zL) (zBi (q := ((!(zJ dn i)) = true) ∧ (0 ≤ ((zJ l i).fin))) 12 16 [75, 74, 73, 72, 71, 70, 69, 68, 67, 66, 65, 64] (((zJ l i).fin) < ((zJ l ((m.call).toNat)).beg)) rfl rfl rfl rfl rfl rfl trivial rfl (fun h9_16 => ?_) (fun g9_29 => ?_))
       ·
        refine yZ rfl (gT h9_16) (zS rfl (zL) (yZ rfl (gT h9_16) (zS rfl (zL) (yZ rfl (gT h9_16) (zS rfl (z4 (pR hv) 21 i rfl rfl rfl (by omega)) (yZ rfl (gT h9_16) (zS rfl (zY (o := 12) rfl) (yZ rfl (gT h9_16) (zS rfl (yL (pR hv) 21 i 12 (off := yU v + i * 21 + 12) (fun _ => rfl) rfl (by omega) (by omega) rfl) (yZ rfl (gT h9_16) (zS rfl (zL) (yZ rfl (gT h9_16) ?_))))))))))))
        refine zS rfl (zY (o := 0) rfl) (yZ rfl (gT h9_16) (zS rfl (zj 5 (v := Vi m.call) rfl rfl rfl) (yZ rfl (gT h9_16) (zS rfl (z4 (pR hv) 21 ((m.call).toNat) rfl rfl (by omega) (by omega)) (yZ rfl (gT h9_16) (zS rfl (zY (o := 11) rfl) (yZ rfl (gT h9_16) (zS rfl (yL (pR hv) 21 ((m.call).toNat) 11 (off := yU v + ((m.call).toNat) * 21 + 11) (fun _ => rfl) rfl (by omega) (by omega) rfl) (yZ rfl (gT h9_16) (zS rfl (zBq rfl rfl) ?_))))))))))
        exact zC7 rfl
       refine kT (zT rfl (fun c5 => ?_) (fun c5 => ?_))
       ·
        have hea : x4 l dn (zJ l m.call.toNat) := ⟨i, by omega, notFi.1 c5.1.1, c5.1.2, c5.2⟩
        refine zB (zE rfl (zA ?_))
        exact zN (zu (v := Vi 20) rfl rfl (fun w' hw => ⟨bv, lv, rv, t, dn, (jH (zHi c1 c2 c3 hea)), zAz (zHi c1 c2 c3 hea) (by decide), hw.sel [0, 1, 2, 3, 4] rfl (by decide)⟩))
       ·
        refine zI (zb (zC rfl (zt rfl rfl (zq (by omega)) rfl (zE rfl ?_))))
        exact ze (fun w' hw => ⟨i + 1, ⟨rfl, rfl, rfl, rfl, trivial⟩, ⟨by omega, zBZ hE (fun q => c5 ⟨⟨notFi.2 q.1.1, q.1.2⟩, q.2⟩)⟩, hw, (by omega)⟩)
      ·
       exact ym rfl (fun w' hw => ⟨⟨rfl, rfl, rfl, trivial⟩, fun _ => ⟨c3, fun q => hE (by have e : i = l.length := (by omega); rw [e]; exact q)⟩, hw⟩)
    ·
     exact xL (fun w' hw => ⟨⟨rfl, rfl, rfl, trivial⟩, fun q => absurd q c2, hw⟩)
   have hce := hΦ
   have ho := h.q
   refine zK (zc [1, 3, 4, 5] rfl (by decide) (by kernel_rfl) (fun w' hw hS => zD 0 rfl (zL) hS (zD 1 rfl (zn rfl) hS (zD 2 rfl (zY (o := 0) rfl) hS (zD 3 rfl (zY (o := 0) rfl) hS (zD 4 rfl (zY (o := 1) rfl) hS (zD 5 rfl (zj 3 (v := Vi m.delta) rfl rfl rfl) hS (zZ 6 rfl hw (zP rfl rfl (fun w' hw => (zHt s (43) (rv :: Vn 0 :: dv :: []) t.now t.cnt bv lv t.bs t.ls m.delta w' ho.time hmd ho.llen (hw.give [0, 2] rfl (by decide))).mono ?_))))))))))
   rintro _ w1 ⟨gv1_, gs2_, e3_, now'4_, lv'5_, ls'6_, rfl, hf11_6, hf11_6_1, hf11_6_2, hf11_6_3, hO⟩
   have hP : (⟨now'4_, t.cnt, t.bs, ls'6_, t.rs⟩ : RL) = passF t m.delta := by rw [hf11_6_1, hf11_6_2]; rfl
   have hPok : LOkR now'4_ t.cnt t.bs ls'6_ t.rs := by have q := h.passF hmd; rw [← hP] at q; exact q
   have hpe := hf11_6
   refine (?_ : CL _ _ _ _ _ _ (Own w S [Res.vec 105 2 bv t.bs.length (t.bs.flatMap BudD.cells), Res.vec 50 6 rv t.rs.length (t.rs.flatMap RepD.cells), Res.vec 4 1 dv dn.length (dn.flatMap B1), Res.row b5 65 (MovD.cells m), Res.row s (43) [Vi now'4_, Vn t.cnt, bv, lv'5_, rv, Vn 0, dv], Res.vec 77 5 lv'5_ ls'6_.length (ls'6_.flatMap LeaD.cells), Res.vec 32 1 gv1_ gs2_.length (gs2_.flatMap U1)])) w1 (hw.frameL [0, 2] rfl hO)
   refine zF [0, 1, 2, 3] rfl (by decide) (fun w' hw hS => zD 7 rfl (zL) hS (zD 8 rfl (yK (vs := [gv1_, Vi e3_]) rfl rfl) hS (zD 9 rfl (yK (vs := [gv1_, Vi e3_]) rfl rfl) hS (zD 10 rfl (xD) hS (zD 11 rfl (xD) hS (zO ?_))))))
   refine (?_ : C _ _ _ _ _ _ _ (Own w S [Res.vec 105 2 bv t.bs.length (t.bs.flatMap BudD.cells), Res.vec 50 6 rv t.rs.length (t.rs.flatMap RepD.cells), Res.vec 4 1 dv dn.length (dn.flatMap B1), Res.row b5 65 (MovD.cells m), Res.row s (43) [Vi now'4_, Vn t.cnt, bv, lv'5_, rv, Vn 0, dv], Res.vec 77 5 lv'5_ ls'6_.length (ls'6_.flatMap LeaD.cells), Res.vec 32 1 gv1_ gs2_.length (gs2_.flatMap U1)])) _ hw
   refine zK (zB (zC rfl (kP rfl rfl rfl (zC rfl (yn (q := e3_ ≠ 0) 3 2 [92, 91, 90] (m.call < 0) rfl rfl rfl rfl rfl rfl trivial rfl (fun h12_2 => ?_) (fun g12_6 => ?_))))))
   ·
    refine zQ rfl (gF h12_2) (zM (o := 0) rfl rfl (zQ rfl (gF h12_2) (zU 3 (v := Vi m.call) rfl rfl rfl rfl (zQ rfl (gF h12_2) (yA rfl rfl rfl ?_)))))
    exact yH rfl (fun _ hw => hw)
   refine zA (zT rfl (fun c6 => ?_) (fun c6 => ?_))
   ·
    refine zB (zC rfl (zE rfl (zA ?_)))
    exact zN (zu (v := Vi e3_) rfl rfl (fun w' hw => ⟨bv, lv'5_, rv, ⟨now'4_, t.cnt, t.bs, ls'6_, t.rs⟩, dn, (by rw [hpe]; exact zJg c1 hce (by rw [← hpe]; exact c6)), by have q := zJ4 (t := t) c1 hce (by rw [← hpe]; exact c6); intro hz; rw [(q hz).1, ← hP]; exact ⟨rfl, rfl, hPok⟩, hw.sel [4, 0, 5, 1, 2] rfl (by decide)⟩))
   ·
    have h0 : 0 ≤ m.call := by omega
    have hok : ¬ yT t.now m.delta ≠ 0 := by rw [← hpe]; exact fun q => c6 (.inl q)
    have hcl : m.call.toNat < l.length := by omega
    have hcd : m.call.toNat < dn.length := by omega
    refine zI (zB (zC rfl (zM (o := 0) rfl rfl (zU 3 (v := Vi m.call) rfl rfl rfl rfl (zG (pR hv) 21 ((m.call).toNat) rfl rfl (by omega) (by omega) rfl (xm (pR hv) 21 ((m.call).toNat) (off := yU v + ((m.call).toNat) * 21) (fun _ => rfl) rfl rfl (by omega) rfl (yG (v := .agg #[Vi 0, .bool false, .bool false, Vn 0, Vn 0, Vi 0, .string (⟨#[]⟩ : ByteArray), Vi 0, Vi 0, Vn 0, .string (⟨#[]⟩ : ByteArray), Vi 0, Vi 0, Vn 0, Vn 0, Vi 0, Vn 0, Vi 0, Vi 0, Vi 0, Vi 0]) (by kernel_rfl) rfl (fun b10 => zi 7 rfl rfl rfl (zx rfl) rfl (zA (zK (zc [0, 1, 3, 4, 5, 6, 7] rfl (by decide) (by kernel_rfl) (fun w' hw hS => zD 0 rfl (zL) hS ?_))))))))))))
    refine zD 1 rfl (zn rfl) hS (zD 2 rfl (zY (o := 6) rfl) hS (zD 3 rfl (zj 3 (v := dv) rfl rfl rfl) hS (zD 4 rfl (zY (o := 0) rfl) hS (zD 5 rfl (zj 2 (v := Vi m.call) rfl rfl rfl) hS (zZ 6 rfl hw (zG (pV 2 rfl) 1 ((m.call).toNat) rfl rfl (by omega) (by omega) rfl (zF [0, 1, 3, 4, 5, 6, 7] rfl (by decide) (fun w' hw hS => zZ 7 rfl hw (zV 2 ((m.call).toNat) true rfl (fun _ => rfl) rfl (by omega) rfl rfl rfl (by omega) (zF [0, 1, 3, 4, 5, 6, 7] rfl (by decide) (fun w' hw hS => zO ?_)))))))))))
    refine (?_ : C _ _ _ _ _ _ _ (Own w S [Res.vec 105 2 bv t.bs.length (t.bs.flatMap BudD.cells), Res.vec 50 6 rv t.rs.length (t.rs.flatMap RepD.cells), Res.vec 4 1 dv (dn.set ((m.call).toNat) true).length ((dn.set ((m.call).toNat) true).flatMap B1), Res.row b5 65 (MovD.cells m), Res.row s (43) [Vi now'4_, Vn t.cnt, bv, lv'5_, rv, Vn 0, dv], Res.vec 77 5 lv'5_ ls'6_.length (ls'6_.flatMap LeaD.cells), Res.vec 32 1 gv1_ gs2_.length (gs2_.flatMap U1), Res.row b10 56 (CallD.cells (zJ l ((m.call).toNat)))])) _ hw
    refine zK (zB (zM (o := 1) rfl rfl (zU 7 (v := .bool ((zJ l ((m.call).toNat)).look)) rfl rfl rfl rfl (zA (kp rfl (fun c7 => ?_) (fun c7 => ?_))))))
    ·
     have hmv := mvT (s := ⟨t, dn⟩) (t2 := ⟨now'4_, t.cnt, t.bs, ls'6_, t.rs⟩) c1 h0 (hce h0) hok (by show xE (passF t m.delta) _ = _; rw [← hP]; exact zId c7)
     refine zK (zc [1, 2, 3, 6, 7] rfl (by decide) (by kernel_rfl) (fun w' hw hS => zD 0 rfl (zL) hS (zD 1 rfl (zn rfl) hS (zD 2 rfl (zY (o := 0) rfl) hS (zD 3 rfl (zY (o := 0) rfl) hS (zD 4 rfl (zY (o := 10) rfl) hS (zD 5 rfl (zj 4 (v := .string ((zJ l ((m.call).toNat)).key)) rfl rfl rfl) hS (zZ 6 rfl hw (zP rfl rfl (fun w' hw => (zBB s (43) (rv :: Vn 0 :: dv :: []) now'4_ t.cnt bv lv'5_ t.bs ls'6_ ((zJ l ((m.call).toNat)).key) w' hPok.q (hw.give [4, 0, 5] rfl (by decide))).mono ?_))))))))))
     rintro _ w1 ⟨rfl, hO⟩
     refine (?_ : CL _ _ _ _ _ _ (Own w S [Res.vec 50 6 rv t.rs.length (t.rs.flatMap RepD.cells), Res.vec 4 1 dv (dn.set ((m.call).toNat) true).length ((dn.set ((m.call).toNat) true).flatMap B1), Res.row b5 65 (MovD.cells m), Res.vec 32 1 gv1_ gs2_.length (gs2_.flatMap U1), Res.row b10 56 (CallD.cells (zJ l ((m.call).toNat))), Res.row s (43) [Vi now'4_, Vn t.cnt, bv, lv'5_, rv, Vn 0, dv], Res.vec 105 2 bv t.bs.length (t.bs.flatMap BudD.cells), Res.vec 77 5 lv'5_ ls'6_.length (ls'6_.flatMap LeaD.cells)])) w1 (hw.frameL [4, 0, 5] rfl hO)
     refine zF [0, 1, 2, 3, 4] rfl (by decide) (fun w' hw hS => zD 7 rfl (zL) hS (zD 8 rfl (yK (vs := [Vi (yN ((zJ l ((m.call).toNat)).key) t.bs), Vi (yD ((zJ l ((m.call).toNat)).key) ls'6_)]) rfl rfl) hS (zD 9 rfl (yK (vs := [Vi (yN ((zJ l ((m.call).toNat)).key) t.bs), Vi (yD ((zJ l ((m.call).toNat)).key) ls'6_)]) rfl rfl) hS (zD 10 rfl (xD) hS (zD 11 rfl (xD) hS (zO ?_))))))
     refine (?_ : C _ _ _ _ _ _ _ (Own w S [Res.vec 50 6 rv t.rs.length (t.rs.flatMap RepD.cells), Res.vec 4 1 dv (dn.set ((m.call).toNat) true).length ((dn.set ((m.call).toNat) true).flatMap B1), Res.row b5 65 (MovD.cells m), Res.vec 32 1 gv1_ gs2_.length (gs2_.flatMap U1), Res.row b10 56 (CallD.cells (zJ l ((m.call).toNat))), Res.row s (43) [Vi now'4_, Vn t.cnt, bv, lv'5_, rv, Vn 0, dv], Res.vec 105 2 bv t.bs.length (t.bs.flatMap BudD.cells), Res.vec 77 5 lv'5_ ls'6_.length (ls'6_.flatMap LeaD.cells)])) _ hw
     refine zK (zB (zM (o := 12) rfl rfl (zU 4 (v := Vi ((zJ l ((m.call).toNat)).fin)) rfl rfl rfl rfl (yQ rfl rfl rfl (zC rfl (z7 (q := 0 ≤ ((zJ l ((m.call).toNat)).fin)) 10 3 [132, 131, 130, 129, 128, 127, 126, 125, 124, 123] (((yN ((zJ l ((m.call).toNat)).key) t.bs) ≠ ((zJ l ((m.call).toNat)).cap)) ∨ ((yD ((zJ l ((m.call).toNat)).key) ls'6_) ≠ ((zJ l ((m.call).toNat)).lent))) rfl rfl rfl rfl rfl rfl trivial rfl (fun h18_3 => ?_) (fun g18_14 => ?_)))))))
     ·
      refine zQ rfl (gT h18_3) (zC rfl (zQ rfl (gT h18_3) (zM (o := 19) rfl rfl (zQ rfl (gT h18_3) (zU 4 (v := Vi ((zJ l ((m.call).toNat)).cap)) rfl rfl rfl rfl (zQ rfl (gT h18_3) (kP rfl rfl rfl (zQ rfl (gT h18_3) (zC rfl (yn (q := (yN ((zJ l ((m.call).toNat)).key) t.bs) ≠ ((zJ l ((m.call).toNat)).cap)) 4 8 [131, 130, 129, 128] ((yD ((zJ l ((m.call).toNat)).key) ls'6_) ≠ ((zJ l ((m.call).toNat)).lent)) rfl rfl rfl rfl rfl rfl ⟨_, rfl, rfl, gT h18_3⟩ rfl (fun h18_8 => ?_) (fun g18_13 => ?_)))))))))))
      ·
       refine zQ rfl (gF h18_8) (zC rfl (zQ rfl (gF h18_8) (zM (o := 20) rfl rfl (zQ rfl (gF h18_8) (zU 4 (v := Vi ((zJ l ((m.call).toNat)).lent)) rfl rfl rfl rfl (zQ rfl (gF h18_8) (kP rfl rfl rfl ?_)))))))
       exact yH rfl (fun _ hw => hw)
      exact yH rfl (fun _ hw => hw)
     refine zA (zT rfl (fun c8 => ?_) (fun c8 => ?_))
     ·
      refine zB (zE rfl (zA ?_))
      exact zN (zu (v := Vi 18) rfl rfl (fun w' hw => ⟨bv, lv'5_, rv, ⟨now'4_, t.cnt, t.bs, ls'6_, t.rs⟩, dn.set m.call.toNat true, (jH (hmv.1 c8)), zAz (hmv.1 c8) (by decide), hw.sel [5, 6, 7, 0, 1] rfl (by decide)⟩))
     ·
      refine zI (zB (zE rfl (zA ?_)))
      exact zN (zu (v := Vi 0) rfl rfl (fun w' hw => ⟨bv, lv'5_, rv, ⟨now'4_, t.cnt, t.bs, ls'6_, t.rs⟩, dn.set m.call.toNat true, (jH (hmv.2 c8)), by rw [hmv.2 c8]; exact fun _ => ⟨rfl, rfl, hPok⟩, hw.sel [5, 6, 7, 0, 1] rfl (by decide)⟩))
    ·
     refine zI (zK (zc [2, 3, 6, 7] rfl (by decide) (by kernel_rfl) (fun w' hw hS => zD 0 rfl (zL) hS (zD 1 rfl (zn rfl) hS (zD 2 rfl (zY (o := 0) rfl) hS (zD 3 rfl (zY (o := 3) rfl) hS (zD 4 rfl (zD7 3 (CmdD.cells ((zJ l ((m.call).toNat)).cmd)) rfl rfl (xn 3 rfl) (by kernel_rfl)) hS (za 5 9 ?_ ?_))))))))
     ·
      refine zW 5 rfl hw (zP rfl rfl (fun w' hw => (zJA s (43) (dv :: []) now'4_ t.cnt bv lv'5_ rv t.bs ls'6_ t.rs 0 ((zJ l ((m.call).toNat)).cmd) w' hPok ((hcw _ (yR hcl)).cmd) (hw.give [4, 0, 5, 1] rfl (by decide))).mono ?_))
      rintro _ w1 ⟨r7_, did8_, cnt'9_, bv'10_, lv'11_, rv'12_, bs'13_, ls'14_, rs'15_, rfl, hf21_5, hO⟩
      have hdq : doF (passF t m.delta) (zJ l m.call.toNat).cmd = ((r7_, did8_), ⟨now'4_, cnt'9_, bs'13_, ls'14_, rs'15_⟩) := by rw [← hP]; exact zHZ hPok.q.lup hf21_5
      have hmv := mvT (s := ⟨t, dn⟩) c1 h0 (hce h0) hok (zHd (by rw [c7]; decide) hdq)
      have hlo : LOkR now'4_ cnt'9_ bs'13_ ls'14_ rs'15_ := by have q := (LOkR.doF (t := passF t m.delta) (h.passF hmd) (hcw _ (yR hcl)).cmd hn).1; rw [hdq, ← hP] at q; exact q
      refine (?_ : CL _ _ _ _ _ _ (Own w S [Res.vec 4 1 dv (dn.set ((m.call).toNat) true).length ((dn.set ((m.call).toNat) true).flatMap B1), Res.row b5 65 (MovD.cells m), Res.vec 32 1 gv1_ gs2_.length (gs2_.flatMap U1), Res.row b10 56 (CallD.cells (zJ l ((m.call).toNat))), Res.row s (43) [Vi now'4_, Vn cnt'9_, bv'10_, lv'11_, rv'12_, Vn 0, dv], Res.vec 105 2 bv'10_ bs'13_.length (bs'13_.flatMap BudD.cells), Res.vec 77 5 lv'11_ ls'14_.length (ls'14_.flatMap LeaD.cells), Res.vec 50 6 rv'12_ rs'15_.length (rs'15_.flatMap RepD.cells)])) w1 (hw.frameL [4, 0, 5, 1] rfl hO)
      refine zF [0, 1, 2, 3] rfl (by decide) (fun w' hw hS => zD 6 rfl (zL) hS (zD 7 rfl (yK (vs := [.agg (RepD.cells r7_).toArray, .bool did8_]) rfl rfl) hS (zD 8 rfl (yK (vs := [.agg (RepD.cells r7_).toArray, .bool did8_]) rfl rfl) hS (zZ 9 rfl hw (yG (v := .agg #[Vn 0, Vn 0, Vi 0, Vn 0, Vi 0, Vi 0]) (by kernel_rfl) rfl (fun b13 => zF [0, 1, 2, 3] rfl (by decide) (fun w' hw hS => zZ 10 rfl hw (zi 8 rfl rfl rfl (zx rfl) rfl (zF [0, 1, 2, 3] rfl (by decide) (fun w' hw hS => zD 11 rfl (xD) hS (zO ?_)))))))))))
      refine (?_ : C _ _ _ _ _ _ _ (Own w S [Res.vec 4 1 dv (dn.set ((m.call).toNat) true).length ((dn.set ((m.call).toNat) true).flatMap B1), Res.row b5 65 (MovD.cells m), Res.vec 32 1 gv1_ gs2_.length (gs2_.flatMap U1), Res.row b10 56 (CallD.cells (zJ l ((m.call).toNat))), Res.row s (43) [Vi now'4_, Vn cnt'9_, bv'10_, lv'11_, rv'12_, Vn 0, dv], Res.vec 105 2 bv'10_ bs'13_.length (bs'13_.flatMap BudD.cells), Res.vec 77 5 lv'11_ ls'14_.length (ls'14_.flatMap LeaD.cells), Res.vec 50 6 rv'12_ rs'15_.length (rs'15_.flatMap RepD.cells), Res.row b13 50 (RepD.cells r7_)])) _ hw
      refine zK (zB (zM (o := 12) rfl rfl (zU 3 (v := Vi ((zJ l ((m.call).toNat)).fin)) rfl rfl rfl rfl (yQ rfl rfl rfl (zC rfl (z7 (q := 0 ≤ ((zJ l ((m.call).toNat)).fin)) 4 3 [150, 149, 148, 147] (¬ (r7_ = ((zJ l ((m.call).toNat)).reply))) rfl rfl rfl rfl rfl rfl trivial rfl (fun h22_3 => ?_) (fun g22_8 => ?_)))))))
      ·
       refine zQ rfl (gT h22_3) (yP (cs := (RepD.cells r7_)) 8 rfl rfl rfl (zQ rfl (gT h22_3) (zM (o := 13) rfl rfl (zQ rfl (gT h22_3) (jS 3 (RepD.cells ((zJ l ((m.call).toNat)).reply)) rfl rfl (xn 13 rfl) (by kernel_rfl) rfl (zQ rfl (gT h22_3) (z9 rfl (zHJ (zC0 r7_ ((zJ l ((m.call).toNat)).reply)) (by kernel_rfl) (by kernel_rfl) rfl rfl rfl rfl) ?_)))))))
       exact yH rfl (fun _ hw => hw)
      refine zA (zT rfl (fun c9 => ?_) (fun c9 => ?_))
      ·
       refine zB (zE rfl (zA ?_))
       exact zN (zu (v := Vi 18) rfl rfl (fun w' hw => ⟨bv'10_, lv'11_, rv'12_, ⟨now'4_, cnt'9_, bs'13_, ls'14_, rs'15_⟩, dn.set m.call.toNat true, (jH (hmv.1 c9)), zAz (hmv.1 c9) (by decide), hw.sel [4, 5, 6, 7, 0] rfl (by decide)⟩))
      ·
       refine zI (zB (zE rfl (zA ?_)))
       exact zN (zu (v := Vi 0) rfl rfl (fun w' hw => ⟨bv'10_, lv'11_, rv'12_, ⟨now'4_, cnt'9_, bs'13_, ls'14_, rs'15_⟩, dn.set m.call.toNat true, (jH (hmv.2 c9)), by rw [hmv.2 c9]; exact fun _ => ⟨rfl, rfl, hlo⟩, hw.sel [4, 5, 6, 7, 0] rfl (by decide)⟩))
     ·
      refine zW 9 rfl hw (yG (v := .agg #[Vn 0, Vn 0, Vi 0, Vn 0, Vi 0, Vi 0]) (by kernel_rfl) rfl (fun b13 => zF [2, 3, 6, 7] rfl (by decide) (fun w' hw hS => zZ 5 rfl hw (zP rfl rfl (fun w' hw => (zJA s (43) (dv :: []) now'4_ t.cnt bv lv'5_ rv t.bs ls'6_ t.rs 0 ((zJ l ((m.call).toNat)).cmd) w' hPok ((hcw _ (yR hcl)).cmd) (hw.give [4, 0, 5, 1] rfl (by decide))).mono ?_)))))
      rintro _ w1 ⟨r16_, did17_, cnt'18_, bv'19_, lv'20_, rv'21_, bs'22_, ls'23_, rs'24_, rfl, hf21_5, hO⟩
      have hdq : doF (passF t m.delta) (zJ l m.call.toNat).cmd = ((r16_, did17_), ⟨now'4_, cnt'18_, bs'22_, ls'23_, rs'24_⟩) := by rw [← hP]; exact zHZ hPok.q.lup hf21_5
      have hmv := mvT (s := ⟨t, dn⟩) c1 h0 (hce h0) hok (zHd (by rw [c7]; decide) hdq)
      have hlo : LOkR now'4_ cnt'18_ bs'22_ ls'23_ rs'24_ := by have q := (LOkR.doF (t := passF t m.delta) (h.passF hmd) (hcw _ (yR hcl)).cmd hn).1; rw [hdq, ← hP] at q; exact q
      refine (?_ : CL _ _ _ _ _ _ (Own w S [Res.vec 4 1 dv (dn.set ((m.call).toNat) true).length ((dn.set ((m.call).toNat) true).flatMap B1), Res.row b5 65 (MovD.cells m), Res.vec 32 1 gv1_ gs2_.length (gs2_.flatMap U1), Res.row b10 56 (CallD.cells (zJ l ((m.call).toNat))), Res.row b13 50 [Vn 0, Vn 0, Vi 0, Vn 0, Vi 0, Vi 0], Res.row s (43) [Vi now'4_, Vn cnt'18_, bv'19_, lv'20_, rv'21_, Vn 0, dv], Res.vec 105 2 bv'19_ bs'22_.length (bs'22_.flatMap BudD.cells), Res.vec 77 5 lv'20_ ls'23_.length (ls'23_.flatMap LeaD.cells), Res.vec 50 6 rv'21_ rs'24_.length (rs'24_.flatMap RepD.cells)])) w1 (hw.frameL [4, 0, 5, 1] rfl hO)
      refine zF [0, 1, 2, 3] rfl (by decide) (fun w' hw hS => zD 6 rfl (zL) hS (zD 7 rfl (yK (vs := [.agg (RepD.cells r16_).toArray, .bool did17_]) rfl rfl) hS (zD 8 rfl (yK (vs := [.agg (RepD.cells r16_).toArray, .bool did17_]) rfl rfl) hS (zZ 10 rfl hw (zi 4 rfl rfl rfl (zx rfl) rfl (zF [0, 1, 2, 3] rfl (by decide) (fun w' hw hS => zD 11 rfl (xD) hS (zO ?_))))))))
      refine (?_ : C _ _ _ _ _ _ _ (Own w S [Res.vec 4 1 dv (dn.set ((m.call).toNat) true).length ((dn.set ((m.call).toNat) true).flatMap B1), Res.row b5 65 (MovD.cells m), Res.vec 32 1 gv1_ gs2_.length (gs2_.flatMap U1), Res.row b10 56 (CallD.cells (zJ l ((m.call).toNat))), Res.row b13 50 (RepD.cells r16_), Res.row s (43) [Vi now'4_, Vn cnt'18_, bv'19_, lv'20_, rv'21_, Vn 0, dv], Res.vec 105 2 bv'19_ bs'22_.length (bs'22_.flatMap BudD.cells), Res.vec 77 5 lv'20_ ls'23_.length (ls'23_.flatMap LeaD.cells), Res.vec 50 6 rv'21_ rs'24_.length (rs'24_.flatMap RepD.cells)])) _ hw
      refine zK (zB (zM (o := 12) rfl rfl (zU 3 (v := Vi ((zJ l ((m.call).toNat)).fin)) rfl rfl rfl rfl (yQ rfl rfl rfl (zC rfl (z7 (q := 0 ≤ ((zJ l ((m.call).toNat)).fin)) 4 3 [150, 149, 148, 147] (¬ (r16_ = ((zJ l ((m.call).toNat)).reply))) rfl rfl rfl rfl rfl rfl trivial rfl (fun h22_3 => ?_) (fun g22_8 => ?_)))))))
      ·
       refine zQ rfl (gT h22_3) (yP (cs := (RepD.cells r16_)) 4 rfl rfl rfl (zQ rfl (gT h22_3) (zM (o := 13) rfl rfl (zQ rfl (gT h22_3) (jS 3 (RepD.cells ((zJ l ((m.call).toNat)).reply)) rfl rfl (xn 13 rfl) (by kernel_rfl) rfl (zQ rfl (gT h22_3) (z9 rfl (zHJ (zC0 r16_ ((zJ l ((m.call).toNat)).reply)) (by kernel_rfl) (by kernel_rfl) rfl rfl rfl rfl) ?_)))))))
       exact yH rfl (fun _ hw => hw)
      refine zA (zT rfl (fun c10 => ?_) (fun c10 => ?_))
      ·
       refine zB (zE rfl (zA ?_))
       exact zN (zu (v := Vi 18) rfl rfl (fun w' hw => ⟨bv'19_, lv'20_, rv'21_, ⟨now'4_, cnt'18_, bs'22_, ls'23_, rs'24_⟩, dn.set m.call.toNat true, (jH (hmv.1 c10)), zAz (hmv.1 c10) (by decide), hw.sel [5, 6, 7, 8, 0] rfl (by decide)⟩))
      ·
       refine zI (zB (zE rfl (zA ?_)))
       exact zN (zu (v := Vi 0) rfl rfl (fun w' hw => ⟨bv'19_, lv'20_, rv'21_, ⟨now'4_, cnt'18_, bs'22_, ls'23_, rs'24_⟩, dn.set m.call.toNat true, (jH (hmv.2 c10)), by rw [hmv.2 c10]; exact fun _ => ⟨rfl, rfl, hlo⟩, hw.sel [5, 6, 7, 8, 0] rfl (by decide)⟩))
end Go.Proofs.YtcdiehplbmkmeaaGreat
