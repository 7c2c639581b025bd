import Derived.Test.YtkkeknmkipkbmaaGreatCnd
set_option linter.unusedSectionVars false
set_option linter.unusedSimpArgs false
set_option linter.unusedVariables false
set_option maxRecDepth 10000
namespace Go.Proofs.YtkkeknmkipkbmaaGreat
open Go Go.Sc Go.Proofs
theorem zDX (rho : Int) (wait : Nat) (ans : Bool) (w : World) (hr : rho < 0 ∨ 500000 < rho) : Rets Tryz.prog 4 #[Vi rho, .int .u16 (wait : Nat), .bool ans] w fun u_ w' => u_ = .bool true ∧ Own w [] [] w' := by
  refine zT Tryz.func4 rfl Tryz.ntmps4 (Own.start w) ?_
  refine zB (zK rfl (zA (zB (zH rfl rfl (fun w' hw => (zCK w').mono ?_)))))
  rintro _ w1 ⟨rfl, hO⟩
  refine (?_ : CL _ _ _ _ _ _ (Own w [] [])) w1 (hw.frame0 hO)
  refine yS (v := .agg #[Vi 0, Vi 0, Vi 0, Vi 0, Vi 0, Vi 0, Vi 0, Vi 0, Vi 0, Vi 0]) (by kernel_rfl) rfl (fun b7 => yH 0 rfl rfl rfl (xx rfl) rfl (zA (zB (zD rfl (zJ (o := 4) rfl rfl (zo 0 rfl rfl rfl rfl rfl (zJ (o := 3) rfl rfl (zo 0 rfl rfl rfl rfl rfl (zA (zB (yc (cs := [Vn 0, Vi 0]) (z := [Vn 0, Vi 0]) (pl := [(0, 1), (1, 1)]) (by kernel_rfl) (by kernel_rfl) rfl (z4 (e := 3) (sz := 1) (vs := [Vi 1, Vi 2, Vi 3]) (by kernel_rfl) rfl rfl (by simp [Value.cells]) (by decide) rfl (fun b22 => ?_)))))))))))))
  refine yc (cs := [(.slice (some ⟨b22, 0, none⟩) 3 3), .slice none 0 0]) (z := [.slice none 0 0, .slice none 0 0]) (pl := [(0, 1), (1, 1)]) (by kernel_rfl) (by kernel_rfl) rfl (yc (cs := [Vn 0, Vn 0, (.slice (some ⟨b22, 0, none⟩) 3 3), .slice none 0 0, .slice none 0 0]) (z := [Vn 0, Vn 0, .slice none 0 0, .slice none 0 0, .slice none 0 0]) (pl := [(0, 1), (1, 1), (2, 2), (4, 1)]) (by kernel_rfl) (by kernel_rfl) rfl (yY 0 rfl rfl rfl (zH rfl rfl (fun w' hw => (zGm rho 100 9 3 (.slice (some ⟨b22, 0, none⟩) 3 3) [1, 2, 3] 0 w' (by first | omega | (simp <;> omega)) (hw.rdVec0 1 rfl)).mono ?_))))
  rintro _ w1 ⟨rfl, hO⟩
  refine (?_ : CL _ _ _ _ _ _ (Own w [] [Res.row b7 25 [Vi 0, Vi 0, Vi 0, Vi rho, Vi 100, Vi 9, Vi 3, Vi 0, Vi 0, Vi 0], vI (.slice (some ⟨b22, 0, none⟩) 3 3) [1, 2, 3]])) w1 (hw.frame0 hO)
  refine zD rfl (yE (vs := [.pointer none, Vi 1]) rfl rfl rfl (yE (vs := [.pointer none, Vi 1]) rfl rfl rfl (zK rfl (zK rfl (zA (zQ (zB (zH rfl rfl (fun w' hw => (zAS w').mono ?_)))))))))
  rintro _ w1 ⟨rfl, hO⟩
  refine (?_ : CL _ _ _ _ _ _ (Own w [] [Res.row b7 25 [Vi 0, Vi 0, Vi 0, Vi rho, Vi 100, Vi 9, Vi 3, Vi 0, Vi 0, Vi 0], vI (.slice (some ⟨b22, 0, none⟩) 3 3) [1, 2, 3]])) w1 (hw.frame0 hO)
  refine zC2 (b := true) rfl rfl (zD rfl (zO rfl rfl (zD rfl (zO rfl rfl (yJ rfl rfl rfl (kX rfl rfl (zD rfl (yT (q := rho < 0) 2 6 [37, 36] (500000 < rho) rfl rfl rfl rfl rfl rfl trivial rfl (fun h4_6 => ?_) (fun g4_9 => ?_)))))))))
  ·
   refine zO rfl (gF h4_6) (zD rfl (zO rfl (gF h4_6) (yo rfl rfl rfl ?_)))
   exact yK rfl (fun _ hw => hw)
  refine zD rfl (yT (q := (rho < 0) ∨ (500000 < rho)) 2 10 [41, 40] (1 ≠ 0) rfl rfl rfl rfl rfl rfl trivial rfl (fun h4_10 => ?_) (fun g4_13 => ?_))
  ·
   refine zO rfl (gF h4_10) (zD rfl (zO rfl (gF h4_10) (kR rfl rfl rfl ?_)))
   exact yK rfl (fun _ hw => hw)
  refine zD rfl (yT (q := ((rho < 0) ∨ (500000 < rho)) ∨ (1 ≠ 0)) 2 14 [45, 44] (true = true) rfl rfl rfl rfl rfl rfl trivial rfl (fun h4_14 => ?_) (fun g4_17 => ?_))
  ·
   refine zO rfl (gF h4_14) (zD rfl (zO rfl (gF h4_14) (xy (by kernel_rfl) rfl rfl rfl ?_)))
   exact yK (xC _) (fun _ hw => hw)
  refine zA (zf rfl (fun c1 => ?_) (fun c1 => ?_))
  ·
   refine zB (zH rfl rfl (fun w' hw => (zAS w').mono ?_))
   rintro _ w1 ⟨rfl, hO⟩
   refine (?_ : CL _ _ _ _ _ _ (Own w [] [Res.row b7 25 [Vi 0, Vi 0, Vi 0, Vi rho, Vi 100, Vi 9, Vi 3, Vi 0, Vi 0, Vi 0], vI (.slice (some ⟨b22, 0, none⟩) 3 3) [1, 2, 3]])) w1 (hw.frame0 hO)
   refine zD rfl (zO rfl rfl (zD rfl (zO rfl rfl (yJ rfl rfl rfl (zO rfl rfl (zD rfl (yT (q := rho < 0) 2 4 [53, 52] (500000 < rho) rfl rfl rfl rfl rfl rfl ⟨_, rfl, rfl, rfl⟩ rfl (fun h5_4 => ?_) (fun g5_7 => ?_))))))))
   ·
    refine zO rfl (gF h5_4) (zD rfl (zO rfl (gF h5_4) (yo rfl rfl rfl ?_)))
    exact yK rfl (fun _ hw => hw)
   refine zEz rfl rfl (zK rfl (zA ?_))
   exact zY (yD (v := .bool (decide ((rho < 0) ∨ (500000 < rho)))) rfl rfl (fun w' hw => ⟨(congrArg Value.bool (decide_eq_true hr)), hw.drop⟩))
  ·
   exact absurd (.inr rfl) c1
theorem zGn {l : LdD} (hp : l.peers.length ≤ 1000) (he : ∀ p ∈ l.peers, p.2.bd 1000000 ∧ p.2.round ≤ l.rounds.length) (h1 : l.rounds.length ≤ 900000) (h2 : l.looks.length ≤ 10000) (h3 : l.answered.length ≤ 1000000) : l.bd := ⟨hp, fun p q => (he p q).1, fun p q => (he p q).2, h1, h2, h3⟩
theorem ok0 : n0.ok [1, 2, 3] := ⟨⟨fun h => absurd (show (1 : Int) = 3 from h) (by decide), by decide⟩, ⟨Nat.zero_le _, Nat.zero_le _, trivial⟩, by decide, by decide, by decide, by decide, by decide, by decide, ⟨fun h => absurd (show (1 : Int) = 4 from h) (by decide), fun h => by cases h⟩, (fun q h => by cases h), by decide, by decide, by decide⟩
theorem ok1 : n1.ok [1, 2, 3] := ⟨⟨fun h => absurd (show (2 : Int) = 3 from h) (by decide), by decide⟩, ⟨Nat.zero_le _, Nat.zero_le _, trivial⟩, by decide, by decide, by decide, by decide, by decide, by decide, ⟨fun h => absurd (show (2 : Int) = 4 from h) (by decide), fun h => by cases h⟩, (fun q h => by cases h), by decide, by decide, by decide⟩
theorem ok2 : n2.ok [1, 2, 3] := ⟨⟨fun _ => by decide, by decide⟩, ⟨Nat.zero_le _, Nat.zero_le _, trivial⟩, by decide, by decide, by decide, by decide, by decide, by decide, ⟨fun h => absurd (show (3 : Int) = 4 from h) (by decide), fun h => by cases h⟩, (fun q h => by cases h), by decide, by decide, by decide⟩
theorem zHd : (LogA.mk 0 0 [jc 0 1]).good := ⟨Nat.zero_le _, Nat.zero_le _, by decide⟩
theorem bdP {p : PeerM} (h : ((1 ≤ p.next ∧ p.next ≤ 1000001) ∧ p.mtch ≤ 1000000 ∧ 0 ≤ p.flight ∧ p.flight ≤ 4)) : p.bd 1000000 := ⟨h.1, h.2.1, h.2.2⟩
theorem bd3 : l3.bd := zGn (by decide) (by intro p hp; simp only [l3, List.mem_cons, List.not_mem_nil, or_false] at hp; rcases hp with rfl | rfl <;> exact ⟨bdP (by decide), by decide⟩) (by decide) (by decide) (by decide)
theorem bd5 : l5.bd := zGn (by decide) (by intro p hp; simp only [l5, List.mem_cons, List.not_mem_nil, or_false] at hp; rcases hp with rfl | rfl <;> exact ⟨bdP (by decide), by decide⟩) (by decide) (by decide) (by decide)
theorem bd7 {now : Int} : (l7 now).bd := zGn (by show 2 ≤ 1000; decide) (by intro p hp; simp only [l7, List.mem_cons, List.not_mem_nil, or_false] at hp; rcases hp with rfl | rfl <;> exact ⟨bdP (by decide), by show _ ≤ 2; decide⟩) (by show 2 ≤ 900000; decide) (by show 1 ≤ 10000; decide) (by show 1 ≤ 1000000; decide)
theorem ok3 : n3.ok [1, 2, 3] := ⟨⟨fun h => absurd (show (4 : Int) = 3 from h) (by decide), by decide⟩, zHd, by decide, by decide, by decide, by decide, by decide, by decide, ⟨fun _ => rfl, fun _ => rfl⟩, (fun q h => by cases h; exact bd3), by decide, by decide, by decide⟩
theorem ok5 : n5.ok [1, 2, 3] := ⟨⟨fun h => absurd (show (4 : Int) = 3 from h) (by decide), by decide⟩, zHd, by decide, by decide, by decide, by decide, by decide, by decide, ⟨fun _ => rfl, fun _ => rfl⟩, (fun q h => by cases h; exact bd5), by decide, by decide, by decide⟩
theorem ok7 {now : Int} (h : 0 ≤ now ∧ now ≤ 1000000000000000) : (n7 now).ok [1, 2, 3] := ⟨⟨fun h => absurd (show (4 : Int) = 3 from h) (by decide), by show 1 ≤ 4611686018427387904; decide⟩, zHd, by show 1 ≤ 100000; decide, by show 1 ≤ 1; decide, h, by show 0 ≤ (100 : Int) ∧ (100 : Int) ≤ _; decide, h, by show 0 ≤ (100 : Int) ∧ (100 : Int) ≤ _; decide, ⟨fun _ => rfl, fun _ => rfl⟩, (fun q h => by cases h; exact bd7), by show 0 ≤ 1000; decide, by show 1 ≤ ((za [1, 2, 3] [jc 0 1]).vs ++ (za [1, 2, 3] [jc 0 1]).ls).length ∧ ((za [1, 2, 3] [jc 0 1]).vs ++ (za [1, 2, 3] [jc 0 1]).ls).length ≤ 12; decide, by show 1 ≤ 1; decide⟩
theorem zKk {rho : Int} (h : 0 ≤ rho ∧ rho ≤ 500000) : (a3 rho).ok := ⟨by show 1 ≤ (1 : Int) ∧ (1 : Int) ≤ 16; decide, h, by show 1 ≤ (100 : Int) ∧ (100 : Int) ≤ 1000000; decide, by show 1 ≤ (9 : Int) ∧ (9 : Int) ≤ 1000000; decide, by show 1 ≤ (3 : Int) ∧ (3 : Int) ≤ 1000000; decide⟩
instance : Inhabited MsgA := ⟨⟨0, 0, 0, 0, 0, 0, 0, 0, false, [], ⟨[], []⟩, 0, []⟩⟩
theorem zAz {k s d : Int} {t i l c r : Nat} {f : Bool} (h : ((t < 1000000 ∧ i < 1000000) ∧ l < 1000000 ∧ c < 1000000) ∧ r < 1000000) : (yP k s d t i l c r f (.slice none 0 0) []).wf :=
  ⟨by show t < _; omega, by show i < _; omega, by show l < _; omega, by show c < _; omega, by show r < _; omega, Nat.zero_le _, (fun e he => by cases he), ⟨Nat.zero_le _, Nat.zero_le _⟩, ⟨Nat.zero_le _, Nat.zero_le _⟩, Nat.zero_le _, Nat.zero_le _⟩
theorem zKX {rho now e : Int} (hr : 0 ≤ rho ∧ rho ≤ 500000) {n n' : NdD} {o : OutD} {x : OutA} (s5 : n.a = n5) (h : ((n'.a, x), e) = jN (a3 rho) [1, 2, 3] 2 true now n.a) (h1 : o.msgs.map MsgD.a = x.ms) (h2 : o.rdys = x.rdys) :
    e = 0 ∧ ((max 100 now - 100 < shr (shr 100 rho) rho ∧ o.rdys.length = 1) ∨ (¬ (max 100 now - 100 < shr (shr 100 rho) rho) ∧ o.rdys.length = 0 ∧ o.msgs.length = 2 ∧ (zG o.msgs 0).round = 2 ∧ n'.a = n7 (max 100 now))) := by
  have hG : (xH 100 rho).1 = shr (shr 100 rho) rho := congrArg Prod.fst (zDD (t := 100) (rho := rho) (by unfold jJ; omega)).1
  rw [s5] at h
  by_cases q : max 100 now - 100 < (xH 100 rho).1
  · have h3 := h.trans (zJl q)
    have h4 : x = ⟨[], [⟨2, 1⟩], []⟩ := congrArg (fun q : (NodA × OutA) × Int => q.1.2) h3
    exact ⟨congrArg Prod.snd h3, .inl ⟨by rw [← hG]; exact q, by rw [h2, h4]; rfl⟩⟩
  · have h3 := h.trans (zJj q)
    have h4 := congrArg (fun q : (NodA × OutA) × Int => q.1.2) h3
    dsimp only at h4
    have h5 : o.msgs.map MsgD.a = [⟨5, 1, 2, 1, 0, 0, 1, 2, false, [jc 0 1], ⟨[], []⟩, 0, []⟩, ⟨5, 1, 3, 1, 1, 1, 1, 2, false, [], ⟨[], []⟩, 0, []⟩] := h1.trans (by rw [h4])
    have h6 : o.msgs.length = 2 := by have := congrArg List.length h5; rwa [List.length_map] at this
    refine ⟨congrArg Prod.snd h3, .inr ⟨by rw [← hG]; exact q, by rw [h2, h4]; rfl, h6, ?_, congrArg (fun q : (NodA × OutA) × Int => q.1.1) h3⟩⟩
    have h7 := congrArg (fun l : List MsgA => (zG l 0).round) h5
    rw [jv (by omega)] at h7
    exact h7
theorem zHE (rho : Int) (wait : Nat) (ans : Bool) (w : World) (hr : 0 ≤ rho ∧ rho ≤ 500000) (hw : wait < 65536) : Rets Tryz.prog 4 #[Vi rho, .int .u16 (wait : Nat), .bool ans] w fun u_ w' => u_ = .bool true ∧ Own w [] [] w' := by
  refine zT Tryz.func4 rfl Tryz.ntmps4 (Own.start w) ?_
  refine zB (zK rfl (zA (zB (zH rfl rfl (fun w' hw => (zCK w').mono ?_)))))
  rintro _ w1 ⟨rfl, hO⟩
  refine (?_ : CL _ _ _ _ _ _ (Own w [] [])) w1 (hw.frame0 hO)
  refine yS (v := .agg #[Vi 0, Vi 0, Vi 0, Vi 0, Vi 0, Vi 0, Vi 0, Vi 0, Vi 0, Vi 0]) (by kernel_rfl) rfl (fun b7 => yH 0 rfl rfl rfl (xx rfl) rfl (zA (zB (zD rfl (zJ (o := 4) rfl rfl (zo 0 rfl rfl rfl rfl rfl (zJ (o := 3) rfl rfl (zo 0 rfl rfl rfl rfl rfl (zA (zB (yc (cs := [Vn 0, Vi 0]) (z := [Vn 0, Vi 0]) (pl := [(0, 1), (1, 1)]) (by kernel_rfl) (by kernel_rfl) rfl (z4 (e := 3) (sz := 1) (vs := [Vi 1, Vi 2, Vi 3]) (by kernel_rfl) rfl rfl (by simp [Value.cells]) (by decide) rfl (fun b22 => ?_)))))))))))))
  refine yc (cs := [(.slice (some ⟨b22, 0, none⟩) 3 3), .slice none 0 0]) (z := [.slice none 0 0, .slice none 0 0]) (pl := [(0, 1), (1, 1)]) (by kernel_rfl) (by kernel_rfl) rfl (yc (cs := [Vn 0, Vn 0, (.slice (some ⟨b22, 0, none⟩) 3 3), .slice none 0 0, .slice none 0 0]) (z := [Vn 0, Vn 0, .slice none 0 0, .slice none 0 0, .slice none 0 0]) (pl := [(0, 1), (1, 1), (2, 2), (4, 1)]) (by kernel_rfl) (by kernel_rfl) rfl (yY 0 rfl rfl rfl (zH rfl rfl (fun w' hw => (zKC 1 rho 100 9 3 (.slice (some ⟨b22, 0, none⟩) 3 3) [1, 2, 3] 0 w' (by first | omega | (simp <;> omega)) (by first | omega | (simp <;> omega)) (by first | omega | (simp <;> omega)) (by first | omega | (simp <;> omega)) (by first | omega | (simp <;> omega)) ⟨by decide, by decide⟩ (by first | omega | (simp <;> omega) | (constructor <;> (first | omega | (simp <;> omega)))) (by first | omega | (simp <;> omega) | (constructor <;> (first | omega | (simp <;> omega)))) (by first | omega | (simp <;> omega)) (hw.rdVec0 1 rfl)).mono ?_))))
  rintro _ w1 ⟨cb1_, jb2_, b3_, n4_, rfl, hf3_5, hf3_5_1, hO⟩
  have hb := hf3_5_1
  have s0 : n4_.a = n0 := hf3_5
  have ha3 := zKk hr
  have hb3 : b3_.vs.length ≤ 12 := by rw [hb]; decide
  have k0 : n4_.a.ok b3_.vs := by rw [s0, hb]; exact ok0
  have hG : (xH 100 rho).1 = shr (shr 100 rho) rho := congrArg Prod.fst (zDD (t := 100) (rho := rho) (by unfold jJ; omega)).1
  refine (?_ : CL _ _ _ _ _ _ (Own w [] [Res.row b7 25 [Vi 0, Vi 0, Vi 0, Vi rho, Vi 100, Vi 9, Vi 3, Vi 0, Vi 0, Vi 0], vI (.slice (some ⟨b22, 0, none⟩) 3 3) [1, 2, 3], Res.cn cb1_ jb2_ ({ id := 1, nodes := 0, voters := 0, edges := 0, rho := rho, base := 100, spread := 9, beat := 3, disk := 0, post := 0, keep := 0 } : StA) b3_ 0 n4_])) w1 (hw.frame0 hO)
  refine zD rfl (yE (vs := [pt cb1_, Vi 0]) rfl rfl rfl (yE (vs := [pt cb1_, Vi 0]) rfl rfl rfl (zK rfl (zK rfl (zA (zQ (zB (zH rfl rfl (fun w' hw => (zAS w').mono ?_)))))))))
  rintro _ w1 ⟨rfl, hO⟩
  refine (?_ : CL _ _ _ _ _ _ (Own w [] [Res.row b7 25 [Vi 0, Vi 0, Vi 0, Vi rho, Vi 100, Vi 9, Vi 3, Vi 0, Vi 0, Vi 0], vI (.slice (some ⟨b22, 0, none⟩) 3 3) [1, 2, 3], Res.cn cb1_ jb2_ ({ id := 1, nodes := 0, voters := 0, edges := 0, rho := rho, base := 100, spread := 9, beat := 3, disk := 0, post := 0, keep := 0 } : StA) b3_ 0 n4_])) w1 (hw.frame0 hO)
  refine zC2 (b := true) rfl rfl (zD rfl (zO rfl rfl (zD rfl (zO rfl rfl (yJ rfl rfl rfl (kX rfl rfl (zD rfl (yT (q := rho < 0) 2 6 [37, 36] (500000 < rho) rfl rfl rfl rfl rfl rfl trivial rfl (fun h4_6 => ?_) (fun g4_9 => ?_)))))))))
  ·
   refine zO rfl (gF h4_6) (zD rfl (zO rfl (gF h4_6) (yo rfl rfl rfl ?_)))
   exact yK rfl (fun _ hw => hw)
  refine zD rfl (yT (q := (rho < 0) ∨ (500000 < rho)) 2 10 [41, 40] (0 ≠ 0) rfl rfl rfl rfl rfl rfl trivial rfl (fun h4_10 => ?_) (fun g4_13 => ?_))
  ·
   refine zO rfl (gF h4_10) (zD rfl (zO rfl (gF h4_10) (kR rfl rfl rfl ?_)))
   exact yK rfl (fun _ hw => hw)
  refine zD rfl (yT (q := ((rho < 0) ∨ (500000 < rho)) ∨ (0 ≠ 0)) 2 14 [45, 44] (false = true) rfl rfl rfl rfl rfl rfl trivial rfl (fun h4_14 => ?_) (fun g4_17 => ?_))
  ·
   refine zO rfl (gF h4_14) (zD rfl (zO rfl (gF h4_14) (xy (by kernel_rfl) rfl rfl rfl ?_)))
   exact yK (xC _) (fun _ hw => hw)
  refine zA (zf rfl (fun c1 => ?_) (fun c1 => ?_))
  ·
   exact absurd c1 (by simp; omega)
  ·
   refine zR (zB (zD rfl (zH rfl rfl (fun w' hw => (zKI cb1_ jb2_ ({ id := 1, nodes := 0, voters := 0, edges := 0, rho := rho, base := 100, spread := 9, beat := 3, disk := 0, post := 0, keep := 0 } : StA) b3_ 0 n4_ 100 0 w' ha3 (by first | omega | (simp <;> omega)) k0 (by first | omega | (simp <;> omega)) (by first | omega | (simp <;> omega)) (hw.give [2] rfl (by decide))).mono ?_))))
   rintro _ w1 ⟨n'5_, o6_, x7_, rfl, hf6_1, hf6_1_1, hf6_1_2, hf6_1_3, hO⟩
   have s1 : n'5_.a = n1 := by have h := congrArg Prod.fst hf6_1; rw [hb, s0] at h; exact h.trans (congrArg Prod.fst zKT)
   have k1 : n'5_.a.ok [1, 2, 3] := by rw [s1]; exact ok1
   refine (?_ : CL _ _ _ _ _ _ (Own w [] [Res.row b7 25 [Vi 0, Vi 0, Vi 0, Vi rho, Vi 100, Vi 9, Vi 3, Vi 0, Vi 0, Vi 0], vI (.slice (some ⟨b22, 0, none⟩) 3 3) [1, 2, 3], Res.cn cb1_ jb2_ ({ id := 1, nodes := 0, voters := 0, edges := 0, rho := rho, base := 100, spread := 9, beat := 3, disk := 0, post := 0, keep := 0 } : StA) b3_ 0 n'5_, vM o6_.mv o6_.msgs, sM o6_.msgs, vR o6_.rv o6_.rdys, vU o6_.xv o6_.losts])) w1 (hw.frameL [2] rfl hO)
   refine zA (zB (zD rfl (yc (cs := [Vi 2, Vi 2, Vi 1, Vn 1, Vn 0, Vn 0, Vn 0, Vn 0, .bool true, .slice none 0 0, .slice none 0 0, .slice none 0 0, Vi 0, .slice none 0 0]) (z := [Vi 0, Vi 0, Vi 0, Vn 0, Vn 0, Vn 0, Vn 0, Vn 0, .bool false, .slice none 0 0, .slice none 0 0, .slice none 0 0, Vi 0, .slice none 0 0]) (pl := [(0, 1), (1, 1), (2, 1), (3, 1), (4, 1), (5, 1), (6, 1), (7, 1), (8, 1), (9, 1), (10, 2), (12, 1), (13, 1)]) (by kernel_rfl) (by kernel_rfl) rfl (zH rfl rfl (fun w' hw => (zEd cb1_ jb2_ ({ id := 1, nodes := 0, voters := 0, edges := 0, rho := rho, base := 100, spread := 9, beat := 3, disk := 0, post := 0, keep := 0 } : StA) b3_ 0 n'5_ (yP 2 2 1 1 0 0 0 0 true (.slice none 0 0) []) 100 0 w' ha3 (by first | omega | (simp <;> omega)) (by rw [hb]; exact k1) (by first | omega | (simp <;> omega)) (by first | omega | (simp <;> omega)) (zAz (by decide)) ⟨by decide, by decide⟩ (hw.give [2] rfl (by decide)) ⟨Rd.nil, (fun p hp => by cases hp), ⟨Rd.nil, Rd.nil⟩, Rd.nil⟩).mono ?_)))))
   rintro _ w1 ⟨n'8_, dr'9_, o10_, x11_, rfl, hf7_2, hf7_2_1, hf7_2_2, hf7_2_3, hO⟩
   have s2 : n'8_.a = n2 := by have h := congrArg Prod.fst hf7_2; rw [hb, s1] at h; exact h.trans (congrArg Prod.fst zKw)
   have k2 : n'8_.a.ok [1, 2, 3] := by rw [s2]; exact ok2
   refine (?_ : CL _ _ _ _ _ _ (Own w [] [Res.row b7 25 [Vi 0, Vi 0, Vi 0, Vi rho, Vi 100, Vi 9, Vi 3, Vi 0, Vi 0, Vi 0], vI (.slice (some ⟨b22, 0, none⟩) 3 3) [1, 2, 3], vM o6_.mv o6_.msgs, sM o6_.msgs, vR o6_.rv o6_.rdys, vU o6_.xv o6_.losts, Res.cn cb1_ jb2_ ({ id := 1, nodes := 0, voters := 0, edges := 0, rho := rho, base := 100, spread := 9, beat := 3, disk := 0, post := 0, keep := 0 } : StA) b3_ dr'9_ n'8_, vM o10_.mv o10_.msgs, sM o10_.msgs, vR o10_.rv o10_.rdys, vU o10_.xv o10_.losts])) w1 (hw.frameL [2] rfl hO)
   refine zA (zB (zD rfl (yc (cs := [Vi 4, Vi 2, Vi 1, Vn 1, Vn 0, Vn 0, Vn 0, Vn 0, .bool true, .slice none 0 0, .slice none 0 0, .slice none 0 0, Vi 0, .slice none 0 0]) (z := [Vi 0, Vi 0, Vi 0, Vn 0, Vn 0, Vn 0, Vn 0, Vn 0, .bool false, .slice none 0 0, .slice none 0 0, .slice none 0 0, Vi 0, .slice none 0 0]) (pl := [(0, 1), (1, 1), (2, 1), (3, 1), (4, 1), (5, 1), (6, 1), (7, 1), (8, 1), (9, 1), (10, 2), (12, 1), (13, 1)]) (by kernel_rfl) (by kernel_rfl) rfl (zH rfl rfl (fun w' hw => (zEd cb1_ jb2_ ({ id := 1, nodes := 0, voters := 0, edges := 0, rho := rho, base := 100, spread := 9, beat := 3, disk := 0, post := 0, keep := 0 } : StA) b3_ dr'9_ n'8_ (yP 4 2 1 1 0 0 0 0 true (.slice none 0 0) []) 100 0 w' ha3 (by first | omega | (simp <;> omega)) (by rw [hb]; exact k2) (by first | omega | (simp <;> omega)) (by first | omega | (simp <;> omega)) (zAz (by decide)) ⟨by decide, by decide⟩ (hw.give [6] rfl (by decide)) ⟨Rd.nil, (fun p hp => by cases hp), ⟨Rd.nil, Rd.nil⟩, Rd.nil⟩).mono ?_)))))
   rintro _ w1 ⟨n'12_, dr'13_, o14_, x15_, rfl, hf8_2, hf8_2_1, hf8_2_2, hf8_2_3, hO⟩
   have s3 : n'12_.a = n3 := by have h := congrArg Prod.fst hf8_2; rw [hb, s2] at h; exact h.trans (congrArg Prod.fst zKj)
   have k3 : n'12_.a.ok [1, 2, 3] := by rw [s3]; exact ok3
   refine (?_ : CL _ _ _ _ _ _ (Own w [] [Res.row b7 25 [Vi 0, Vi 0, Vi 0, Vi rho, Vi 100, Vi 9, Vi 3, Vi 0, Vi 0, Vi 0], vI (.slice (some ⟨b22, 0, none⟩) 3 3) [1, 2, 3], vM o6_.mv o6_.msgs, sM o6_.msgs, vR o6_.rv o6_.rdys, vU o6_.xv o6_.losts, vM o10_.mv o10_.msgs, sM o10_.msgs, vR o10_.rv o10_.rdys, vU o10_.xv o10_.losts, Res.cn cb1_ jb2_ ({ id := 1, nodes := 0, voters := 0, edges := 0, rho := rho, base := 100, spread := 9, beat := 3, disk := 0, post := 0, keep := 0 } : StA) b3_ dr'13_ n'12_, vM o14_.mv o14_.msgs, sM o14_.msgs, vR o14_.rv o14_.rdys, vU o14_.xv o14_.losts])) w1 (hw.frameL [6] rfl hO)
   refine zA (zQ (zB (zD rfl (zH rfl rfl (fun w' hw => (zHG cb1_ jb2_ ({ id := 1, nodes := 0, voters := 0, edges := 0, rho := rho, base := 100, spread := 9, beat := 3, disk := 0, post := 0, keep := 0 } : StA) b3_ dr'13_ n'12_ 1 true 100 w' ha3 (by first | omega | (simp <;> omega)) (by rw [hb]; exact k3) (by first | omega | (simp <;> omega)) (hw.give [10] rfl (by decide))).mono ?_)))))
   rintro _ w1 ⟨n'16_, o17_, x18_, e19_, rfl, hf9_1, hf9_1_1, hf9_1_2, hf9_1_3, hO⟩
   have s4 : n'16_.a = n3 := by have h := congrArg (fun q : (NodA × OutA) × Int => q.1.1) hf9_1; rw [hb, s3] at h; exact h.trans (congrArg (fun q : (NodA × OutA) × Int => q.1.1) zIu)
   have e4 : e19_ = 15 := by have h := congrArg Prod.snd hf9_1; rw [hb, s3] at h; exact h.trans (congrArg Prod.snd zIu)
   have k4 : n'16_.a.ok [1, 2, 3] := by rw [s4]; exact ok3
   refine (?_ : CL _ _ _ _ _ _ (Own w [] [Res.row b7 25 [Vi 0, Vi 0, Vi 0, Vi rho, Vi 100, Vi 9, Vi 3, Vi 0, Vi 0, Vi 0], vI (.slice (some ⟨b22, 0, none⟩) 3 3) [1, 2, 3], vM o6_.mv o6_.msgs, sM o6_.msgs, vR o6_.rv o6_.rdys, vU o6_.xv o6_.losts, vM o10_.mv o10_.msgs, sM o10_.msgs, vR o10_.rv o10_.rdys, vU o10_.xv o10_.losts, vM o14_.mv o14_.msgs, sM o14_.msgs, vR o14_.rv o14_.rdys, vU o14_.xv o14_.losts, Res.cn cb1_ jb2_ ({ id := 1, nodes := 0, voters := 0, edges := 0, rho := rho, base := 100, spread := 9, beat := 3, disk := 0, post := 0, keep := 0 } : StA) b3_ dr'13_ n'16_, vM o17_.mv o17_.msgs, sM o17_.msgs, vR o17_.rv o17_.rdys, vU o17_.xv o17_.losts])) w1 (hw.frameL [10] rfl hO)
   refine zD rfl (yE (vs := [.agg (OutD.cells o17_).toArray, Vi e19_]) rfl rfl rfl (yE (vs := [.agg (OutD.cells o17_).toArray, Vi e19_]) rfl rfl rfl (yS (v := .agg #[.slice none 0 0, .bool false, .slice none 0 0, .slice none 0 0]) (by kernel_rfl) rfl (fun b10 => ?_))))
   refine zg (fun w' hw => Own.cell1Vec (i := 15) rfl hw) (fun hc1_ => ?_)
   refine zg (fun w' hw => Own.cell1Vec (i := 17) rfl hw) (fun hc2_ => ?_)
   refine zg (fun w' hw => Own.cell1Vec (i := 18) rfl hw) (fun hc3_ => ?_)
   refine yH 19 rfl rfl rfl (zF hc1_ (zF rfl (zF hc2_ (zF hc3_ zw)))) rfl (zK rfl (zA (zB (zD rfl (kR rfl rfl rfl (zA (zf rfl (fun c2 => ?_) (fun c2 => ?_))))))))
   ·
    exact absurd e4 c2
   ·
    refine zR (zB (zD rfl (yc (cs := [Vi 6, Vi 3, Vi 1, Vn 1, Vn 1, Vn 0, Vn 0, Vn 1, .bool true, .slice none 0 0, .slice none 0 0, .slice none 0 0, Vi 0, .slice none 0 0]) (z := [Vi 0, Vi 0, Vi 0, Vn 0, Vn 0, Vn 0, Vn 0, Vn 0, .bool false, .slice none 0 0, .slice none 0 0, .slice none 0 0, Vi 0, .slice none 0 0]) (pl := [(0, 1), (1, 1), (2, 1), (3, 1), (4, 1), (5, 1), (6, 1), (7, 1), (8, 1), (9, 1), (10, 2), (12, 1), (13, 1)]) (by kernel_rfl) (by kernel_rfl) rfl (zH rfl rfl (fun w' hw => (zEd cb1_ jb2_ ({ id := 1, nodes := 0, voters := 0, edges := 0, rho := rho, base := 100, spread := 9, beat := 3, disk := 0, post := 0, keep := 0 } : StA) b3_ dr'13_ n'16_ (yP 6 3 1 1 1 0 0 1 true (.slice none 0 0) []) 100 0 w' ha3 (by first | omega | (simp <;> omega)) (by rw [hb]; exact k4) (by first | omega | (simp <;> omega)) (by first | omega | (simp <;> omega)) (zAz (by decide)) ⟨by decide, by decide⟩ (hw.give [14] rfl (by decide)) ⟨Rd.nil, (fun p hp => by cases hp), ⟨Rd.nil, Rd.nil⟩, Rd.nil⟩).mono ?_)))))
    rintro _ w1 ⟨n'20_, dr'21_, o22_, x23_, rfl, hf12_2, hf12_2_1, hf12_2_2, hf12_2_3, hO⟩
    have s5 : n'20_.a = n5 := by have h := congrArg Prod.fst hf12_2; rw [hb, s4] at h; exact h.trans (congrArg Prod.fst zKc)
    have k5 : n'20_.a.ok [1, 2, 3] := by rw [s5]; exact ok5
    refine (?_ : CL _ _ _ _ _ _ (Own w [] [Res.row b7 25 [Vi 0, Vi 0, Vi 0, Vi rho, Vi 100, Vi 9, Vi 3, Vi 0, Vi 0, Vi 0], vI (.slice (some ⟨b22, 0, none⟩) 3 3) [1, 2, 3], vM o6_.mv o6_.msgs, sM o6_.msgs, vR o6_.rv o6_.rdys, vU o6_.xv o6_.losts, vM o10_.mv o10_.msgs, sM o10_.msgs, vR o10_.rv o10_.rdys, vU o10_.xv o10_.losts, vM o14_.mv o14_.msgs, sM o14_.msgs, vR o14_.rv o14_.rdys, vU o14_.xv o14_.losts, vM o17_.mv o17_.msgs, sM o17_.msgs, vR o17_.rv o17_.rdys, vU o17_.xv o17_.losts, xo b10 o17_, Res.cn cb1_ jb2_ ({ id := 1, nodes := 0, voters := 0, edges := 0, rho := rho, base := 100, spread := 9, beat := 3, disk := 0, post := 0, keep := 0 } : StA) b3_ dr'21_ n'20_, vM o22_.mv o22_.msgs, sM o22_.msgs, vR o22_.rv o22_.rdys, vU o22_.xv o22_.losts])) w1 (hw.frameL [14] rfl hO)
    refine zA (zB (zD rfl (zKM (c := ((wait % 300 : Nat) : Int)) rfl rfl (by omega) rfl rfl (xe (by kernel_rfl) rfl (zy (by omega)) rfl ?_ (by kernel_rfl)))))
    refine z3 rfl rfl (zy (by omega)) rfl (zK rfl (zA (zB (zD rfl (zD rfl (zH rfl rfl (fun w' hw => (zHG cb1_ jb2_ ({ id := 1, nodes := 0, voters := 0, edges := 0, rho := rho, base := 100, spread := 9, beat := 3, disk := 0, post := 0, keep := 0 } : StA) b3_ dr'21_ n'20_ 2 true ((100 + (wait % 300) : Nat) : Int) w' ha3 (by first | omega | (simp <;> omega)) (by rw [hb]; exact k5) (by omega) (hw.give [19] rfl (by decide))).mono ?_)))))))
    rintro _ w1 ⟨n'24_, o25_, x26_, e27_, rfl, hf14_2, hf14_2_1, hf14_2_2, hf14_2_3, hO⟩
    have r6 := zKX hr s5 (by rw [← hb]; exact hf14_2) hf14_2_1 hf14_2_2
    have nw : max 100 ((100 + (wait % 300) : Nat) : Int) = ((100 + (wait % 300) : Nat) : Int) := by omega
    rw [nw] at r6
    refine (?_ : CL _ _ _ _ _ _ (Own w [] [Res.row b7 25 [Vi 0, Vi 0, Vi 0, Vi rho, Vi 100, Vi 9, Vi 3, Vi 0, Vi 0, Vi 0], vI (.slice (some ⟨b22, 0, none⟩) 3 3) [1, 2, 3], vM o6_.mv o6_.msgs, sM o6_.msgs, vR o6_.rv o6_.rdys, vU o6_.xv o6_.losts, vM o10_.mv o10_.msgs, sM o10_.msgs, vR o10_.rv o10_.rdys, vU o10_.xv o10_.losts, vM o14_.mv o14_.msgs, sM o14_.msgs, vR o14_.rv o14_.rdys, vU o14_.xv o14_.losts, vM o17_.mv o17_.msgs, sM o17_.msgs, vR o17_.rv o17_.rdys, vU o17_.xv o17_.losts, xo b10 o17_, vM o22_.mv o22_.msgs, sM o22_.msgs, vR o22_.rv o22_.rdys, vU o22_.xv o22_.losts, Res.cn cb1_ jb2_ ({ id := 1, nodes := 0, voters := 0, edges := 0, rho := rho, base := 100, spread := 9, beat := 3, disk := 0, post := 0, keep := 0 } : StA) b3_ dr'21_ n'24_, vM o25_.mv o25_.msgs, sM o25_.msgs, vR o25_.rv o25_.rdys, vU o25_.xv o25_.losts])) w1 (hw.frameL [19] rfl hO)
    refine zD rfl (yE (vs := [.agg (OutD.cells o25_).toArray, Vi e27_]) rfl rfl rfl (yE (vs := [.agg (OutD.cells o25_).toArray, Vi e27_]) rfl rfl rfl (yS (v := .agg #[.slice none 0 0, .bool false, .slice none 0 0, .slice none 0 0]) (by kernel_rfl) rfl (fun b13 => ?_))))
    refine zg (fun w' hw => Own.cell1Vec (i := 24) rfl hw) (fun hc4_ => ?_)
    refine zg (fun w' hw => Own.cell1Vec (i := 26) rfl hw) (fun hc5_ => ?_)
    refine zg (fun w' hw => Own.cell1Vec (i := 27) rfl hw) (fun hc6_ => ?_)
    refine yH 28 rfl rfl rfl (zF hc4_ (zF rfl (zF hc5_ (zF hc6_ zw)))) rfl (zK rfl (zA (zQ (zQ (zk [0, 1, 2, 4, 5, 6, 8, 9, 10, 12, 13, 14, 16, 17, 18, 19, 21, 22, 23, 24, 26, 27, 28] rfl (by decide) (by kernel_rfl) (fun w' hw hS => zC 0 rfl (zU) hS (zC 1 rfl (zFv rfl rfl) hS (zC 2 rfl (zU) hS ?_))))))))
    by_cases g15_2 : e27_ ≠ 0
    ·
     exact absurd r6.1 g15_2
    ·
     refine zZ 3 rfl rfl (gF g15_2) (zI (o := 2) rfl) hS (zZ 4 rfl rfl (gF g15_2) (zb 22 (v := o25_.rv) rfl rfl rfl) hS (zZ 5 rfl rfl (gF g15_2) (zAc (pV 20 rfl) rfl) hS (zZ 6 rfl rfl (gF g15_2) (zAw rfl rfl) hS (zZ 7 rfl rfl (gF g15_2) (zU) hS (zZ 8 rfl rfl (gF g15_2) (xb rfl rfl (zy (by omega))) hS (zZ 9 rfl rfl (gF g15_2) (zU) hS (zN 10 rfl hw (zO rfl (gF g15_2) (zH rfl rfl (fun w' hw => (zHp 100 rho w' (by first | omega | (simp <;> omega)) (by first | omega | (simp <;> omega))).mono ?_))))))))))
     rintro _ w1 ⟨rfl, hO⟩
     refine (?_ : CL _ _ _ _ _ _ (Own w [] [Res.row b7 25 [Vi 0, Vi 0, Vi 0, Vi rho, Vi 100, Vi 9, Vi 3, Vi 0, Vi 0, Vi 0], vI (.slice (some ⟨b22, 0, none⟩) 3 3) [1, 2, 3], vM o6_.mv o6_.msgs, sM o6_.msgs, vR o6_.rv o6_.rdys, vU o6_.xv o6_.losts, vM o10_.mv o10_.msgs, sM o10_.msgs, vR o10_.rv o10_.rdys, vU o10_.xv o10_.losts, vM o14_.mv o14_.msgs, sM o14_.msgs, vR o14_.rv o14_.rdys, vU o14_.xv o14_.losts, vM o17_.mv o17_.msgs, sM o17_.msgs, vR o17_.rv o17_.rdys, vU o17_.xv o17_.losts, xo b10 o17_, vM o22_.mv o22_.msgs, sM o22_.msgs, vR o22_.rv o22_.rdys, vU o22_.xv o22_.losts, Res.cn cb1_ jb2_ ({ id := 1, nodes := 0, voters := 0, edges := 0, rho := rho, base := 100, spread := 9, beat := 3, disk := 0, post := 0, keep := 0 } : StA) b3_ dr'21_ n'24_, vM o25_.mv o25_.msgs, sM o25_.msgs, vR o25_.rv o25_.rdys, vU o25_.xv o25_.losts, xo b13 o25_])) w1 (hw.frame0 hO)
     refine zE [0, 1, 2, 4, 5, 6, 8, 9, 10, 12, 13, 14, 16, 17, 18, 19, 21, 22, 23, 24, 26, 27, 28] rfl (by decide) (fun w' hw hS => zZ 11 rfl rfl (gF g15_2) (zAo rfl rfl) hS (zZ 12 rfl rfl (gF g15_2) (zJe (by kernel_rfl) rfl rfl) hS (zC 13 rfl (yG (gF g15_2)) hS (zX ?_))))
     refine (?_ : C _ _ _ _ _ _ _ (Own w [] [Res.row b7 25 [Vi 0, Vi 0, Vi 0, Vi rho, Vi 100, Vi 9, Vi 3, Vi 0, Vi 0, Vi 0], vI (.slice (some ⟨b22, 0, none⟩) 3 3) [1, 2, 3], vM o6_.mv o6_.msgs, sM o6_.msgs, vR o6_.rv o6_.rdys, vU o6_.xv o6_.losts, vM o10_.mv o10_.msgs, sM o10_.msgs, vR o10_.rv o10_.rdys, vU o10_.xv o10_.losts, vM o14_.mv o14_.msgs, sM o14_.msgs, vR o14_.rv o14_.rdys, vU o14_.xv o14_.losts, vM o17_.mv o17_.msgs, sM o17_.msgs, vR o17_.rv o17_.rdys, vU o17_.xv o17_.losts, xo b10 o17_, vM o22_.mv o22_.msgs, sM o22_.msgs, vR o22_.rv o22_.rdys, vU o22_.xv o22_.losts, Res.cn cb1_ jb2_ ({ id := 1, nodes := 0, voters := 0, edges := 0, rho := rho, base := 100, spread := 9, beat := 3, disk := 0, post := 0, keep := 0 } : StA) b3_ dr'21_ n'24_, vM o25_.mv o25_.msgs, sM o25_.msgs, vR o25_.rv o25_.rdys, vU o25_.xv o25_.losts, xo b13 o25_])) _ hw
     refine zf rfl (fun c3 => ?_) (fun c3 => ?_)
     ·
      exact absurd c3 (by rcases r6.2 with h | h; (exact fun q => q ⟨fun _ => h.1, fun _ => by omega⟩); (exact fun q => q ⟨fun z => by have := h.2.1; omega, fun z => absurd z h.1⟩))
     ·
      refine zR (zQ (zB (zJ (o := 2) rfl rfl (zM 28 (v := o25_.rv) rfl rfl rfl rfl (zq (pV 26 rfl) rfl rfl (yZ rfl rfl rfl (zD rfl (yT (q := ((o25_.rdys.length : Nat) : Int) = 1) 4 4 [106, 105, 104, 103] (((o25_.msgs.length : Nat) : Int) ≠ 2) rfl rfl rfl rfl rfl rfl trivial rfl (fun h17_4 => ?_) (fun g17_9 => ?_)))))))))
      ·
       refine zO rfl (gF h17_4) (zJ (o := 0) rfl rfl (zO rfl (gF h17_4) (zM 28 (v := o25_.mv) rfl rfl rfl rfl (zO rfl (gF h17_4) (zq (pV 24 rfl) rfl rfl (zO rfl (gF h17_4) (kR rfl rfl rfl ?_)))))))
       exact yK rfl (fun _ hw => hw)
      refine zD rfl (yT (q := (((o25_.rdys.length : Nat) : Int) = 1) ∨ (((o25_.msgs.length : Nat) : Int) ≠ 2)) 2 10 [110, 109] ((!ans) = true) rfl rfl rfl rfl rfl rfl trivial rfl (fun h17_10 => ?_) (fun g17_13 => ?_))
      ·
       refine zO rfl (gF h17_10) (zD rfl (zO rfl (gF h17_10) (zC2 (b := ans) rfl rfl ?_)))
       exact yK (xC _) (fun _ hw => hw)
      refine zA (zf rfl (fun c4 => ?_) (fun c4 => ?_))
      ·
       refine zB (zJ (o := 2) rfl rfl (zM 28 (v := o25_.rv) rfl rfl rfl rfl (zq (pV 26 rfl) rfl rfl (yZ rfl rfl rfl (zD rfl (yT (q := ((o25_.rdys.length : Nat) : Int) = 1) 4 4 [120, 119, 118, 117] (((o25_.msgs.length : Nat) : Int) = 2) rfl rfl rfl rfl rfl rfl trivial rfl (fun h18_4 => ?_) (fun g18_9 => ?_)))))))
       ·
        refine zO rfl (gF h18_4) (zJ (o := 0) rfl rfl (zO rfl (gF h18_4) (zM 28 (v := o25_.mv) rfl rfl rfl rfl (zO rfl (gF h18_4) (zq (pV 24 rfl) rfl rfl (zO rfl (gF h18_4) (yZ rfl rfl rfl ?_)))))))
        exact yK rfl (fun _ hw => hw)
       refine zK rfl (zA ?_)
       exact zY (yD (v := .bool (decide ((((o25_.rdys.length : Nat) : Int) = 1) ∨ (((o25_.msgs.length : Nat) : Int) = 2)))) rfl rfl (fun w' hw => ⟨(by rcases r6.2 with h | h; (exact congrArg Value.bool (decide_eq_true (.inl (by omega)))); (exact congrArg Value.bool (decide_eq_true (.inr (by have := h.2.2.1; omega))))), hw.drop⟩))
      ·
       have r7 : ¬ (((100 + (wait % 300) : Nat) : Int) - 100 < shr (shr 100 rho) rho) ∧ o25_.rdys.length = 0 ∧ o25_.msgs.length = 2 ∧ (zG o25_.msgs 0).round = 2 ∧ n'24_.a = n7 ((100 + (wait % 300) : Nat) : Int) := by rcases r6.2 with h | h; (exact absurd (.inl (.inl (by omega))) c4); exact h
       have k7 : n'24_.a.ok [1, 2, 3] := by rw [r7.2.2.2.2]; exact ok7 (by omega)
       have rd2 := r7.2.2.2.1
       refine zR (zB (zD rfl (zJ (o := 0) rfl rfl (zM 28 (v := o25_.mv) rfl rfl rfl rfl (zm (pV 24 rfl) 14 0 rfl rfl rfl (by omega) rfl (zJ (o := 7) rfl rfl (yR (pV 24 rfl) 14 0 7 (off := xF o25_.mv + 0 * 14 + 7) (fun _ => rfl) rfl (by omega) (by omega) rfl rfl (yc (cs := [Vi 6, Vi 3, Vi 1, Vn 1, Vn 1, Vn 0, Vn 0, Vn ((zG o25_.msgs 0).round), .bool true, .slice none 0 0, .slice none 0 0, .slice none 0 0, Vi 0, .slice none 0 0]) (z := [Vi 0, Vi 0, Vi 0, Vn 0, Vn 0, Vn 0, Vn 0, Vn 0, .bool false, .slice none 0 0, .slice none 0 0, .slice none 0 0, Vi 0, .slice none 0 0]) (pl := [(0, 1), (1, 1), (2, 1), (3, 1), (4, 1), (5, 1), (6, 1), (7, 1), (8, 1), (9, 1), (10, 2), (12, 1), (13, 1)]) (by kernel_rfl) (by kernel_rfl) rfl (zD rfl (z3 rfl rfl (zy (by omega)) rfl (zH rfl rfl (fun w' hw => (zEd cb1_ jb2_ ({ id := 1, nodes := 0, voters := 0, edges := 0, rho := rho, base := 100, spread := 9, beat := 3, disk := 0, post := 0, keep := 0 } : StA) b3_ dr'21_ n'24_ (yP 6 3 1 1 1 0 0 ((zG o25_.msgs 0).round) true (.slice none 0 0) []) (((100 + (wait % 300)) + 50 : Nat) : Int) 0 w' ha3 (by first | omega | (simp <;> omega)) (by rw [hb]; exact k7) (by omega) (by first | omega | (simp <;> omega)) (zAz (by rw [rd2]; decide)) ⟨by show (6 : Int) ≠ 7; decide, by show (6 : Int) ≠ 8; decide⟩ (hw.give [23] rfl (by decide)) ⟨Rd.nil, (fun p hp => by cases hp), ⟨Rd.nil, Rd.nil⟩, Rd.nil⟩).mono ?_))))))))))))
       rintro _ w1 ⟨n'28_, dr'29_, o30_, x31_, rfl, hf19_9, hf19_9_1, hf19_9_2, hf19_9_3, hO⟩
       have s8 : x31_ = ⟨[], [⟨2, 1⟩], []⟩ := by have h := congrArg Prod.snd hf19_9; rw [hb, r7.2.2.2.2, rd2] at h; exact h.trans zK2
       have rd3 : o30_.rdys = [⟨2, 1⟩] := hf19_9_2.trans (by rw [s8])
       refine (?_ : CL _ _ _ _ _ _ (Own w [] [Res.row b7 25 [Vi 0, Vi 0, Vi 0, Vi rho, Vi 100, Vi 9, Vi 3, Vi 0, Vi 0, Vi 0], vI (.slice (some ⟨b22, 0, none⟩) 3 3) [1, 2, 3], vM o6_.mv o6_.msgs, sM o6_.msgs, vR o6_.rv o6_.rdys, vU o6_.xv o6_.losts, vM o10_.mv o10_.msgs, sM o10_.msgs, vR o10_.rv o10_.rdys, vU o10_.xv o10_.losts, vM o14_.mv o14_.msgs, sM o14_.msgs, vR o14_.rv o14_.rdys, vU o14_.xv o14_.losts, vM o17_.mv o17_.msgs, sM o17_.msgs, vR o17_.rv o17_.rdys, vU o17_.xv o17_.losts, xo b10 o17_, vM o22_.mv o22_.msgs, sM o22_.msgs, vR o22_.rv o22_.rdys, vU o22_.xv o22_.losts, vM o25_.mv o25_.msgs, sM o25_.msgs, vR o25_.rv o25_.rdys, vU o25_.xv o25_.losts, xo b13 o25_, Res.cn cb1_ jb2_ ({ id := 1, nodes := 0, voters := 0, edges := 0, rho := rho, base := 100, spread := 9, beat := 3, disk := 0, post := 0, keep := 0 } : StA) b3_ dr'29_ n'28_, vM o30_.mv o30_.msgs, sM o30_.msgs, vR o30_.rv o30_.rdys, vU o30_.xv o30_.losts])) w1 (hw.frameL [23] rfl hO)
       refine yS (v := .agg #[.slice none 0 0, .bool false, .slice none 0 0, .slice none 0 0]) (by kernel_rfl) rfl (fun b15 => ?_)
       refine zg (fun w' hw => Own.cell1Vec (i := 29) rfl hw) (fun hc7_ => ?_)
       refine zg (fun w' hw => Own.cell1Vec (i := 31) rfl hw) (fun hc8_ => ?_)
       refine zg (fun w' hw => Own.cell1Vec (i := 32) rfl hw) (fun hc9_ => ?_)
       refine yH 33 rfl rfl rfl (zF hc7_ (zF rfl (zF hc8_ (zF hc9_ zw)))) rfl (zA (zB (zJ (o := 2) rfl rfl (zM 33 (v := o30_.rv) rfl rfl rfl rfl (zq (pV 31 rfl) rfl rfl (yZ rfl rfl rfl (zD rfl (yd (q := ((o30_.rdys.length : Nat) : Int) = 1) 6 4 [142, 141, 140, 139, 138, 137] ((((zG o30_.rdys 0).id : Nat) : Int) = ((2 : Nat) : Int)) rfl rfl rfl rfl rfl rfl trivial rfl (fun h20_4 => ?_) (fun g20_11 => ?_)))))))))
       ·
        refine zO rfl (gT h20_4) (zJ (o := 2) rfl rfl (zO rfl (gT h20_4) (zM 33 (v := o30_.rv) rfl rfl rfl rfl (zO rfl (gT h20_4) (zm (pV 31 rfl) 2 0 rfl rfl rfl (by omega) rfl (zO rfl (gT h20_4) (zJ (o := 0) rfl rfl (zO rfl (gT h20_4) (yR (pV 31 rfl) 2 0 0 (off := xF o30_.rv + 0 * 2 + 0) (fun _ => rfl) rfl (by omega) (by omega) rfl rfl (zO rfl (gT h20_4) (yZ rfl rfl rfl ?_)))))))))))
        exact yK rfl (fun _ hw => hw)
       refine zD rfl (yd (q := (((o30_.rdys.length : Nat) : Int) = 1) ∧ ((((zG o30_.rdys 0).id : Nat) : Int) = ((2 : Nat) : Int))) 6 12 [150, 149, 148, 147, 146, 145] ((((zG o30_.rdys 0).index : Nat) : Int) = ((1 : Nat) : Int)) rfl rfl rfl rfl rfl rfl trivial rfl (fun h20_12 => ?_) (fun g20_19 => ?_))
       ·
        refine zO rfl (gT h20_12) (zJ (o := 2) rfl rfl (zO rfl (gT h20_12) (zM 33 (v := o30_.rv) rfl rfl rfl rfl (zO rfl (gT h20_12) (zm (pV 31 rfl) 2 0 rfl rfl rfl (by omega) rfl (zO rfl (gT h20_12) (zJ (o := 1) rfl rfl (zO rfl (gT h20_12) (yR (pV 31 rfl) 2 0 1 (off := xF o30_.rv + 0 * 2 + 1) (fun _ => rfl) rfl (by omega) (by omega) rfl rfl (zO rfl (gT h20_12) (yZ rfl rfl rfl ?_)))))))))))
        exact yK rfl (fun _ hw => hw)
       refine zK rfl (zA ?_)
       exact zY (yD (v := .bool (decide (((((o30_.rdys.length : Nat) : Int) = 1) ∧ ((((zG o30_.rdys 0).id : Nat) : Int) = ((2 : Nat) : Int))) ∧ ((((zG o30_.rdys 0).index : Nat) : Int) = ((1 : Nat) : Int))))) rfl rfl (fun w' hw => ⟨(by rw [rd3]; rfl), hw.drop⟩))
end Go.Proofs.YtkkeknmkipkbmaaGreat
