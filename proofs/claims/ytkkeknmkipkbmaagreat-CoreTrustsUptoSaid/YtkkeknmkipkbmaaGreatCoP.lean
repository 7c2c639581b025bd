import Derived.Test.YtkkeknmkipkbmaaGreatCoO
set_option linter.unusedSectionVars false
set_option linter.unusedSimpArgs false
set_option linter.unusedVariables false
set_option maxRecDepth 10000
namespace Go.Proofs.YtkkeknmkipkbmaaGreat
open Go Go.Sc Go.Proofs
structure OutA where
  ms : List MsgA
  rdys : List RdyD
  losts : List Nat
structure LdD.bd (l : LdD) : Prop where
  peers : l.peers.length ≤ 1000
  each : ∀ p ∈ l.peers, p.2.bd 1000000
  round : ∀ p ∈ l.peers, p.2.round ≤ l.rounds.length
  rounds : l.rounds.length ≤ 900000
  looks : l.looks.length ≤ 10000
  answered : l.answered.length ≤ 1000000
def jC (a : StA) (vs0 : List Int) (m : MsgA) (n : NodA) (l : LdD) : NodA × OutA :=
  match xI l.peers m.src with
  | none => (n, ⟨[], [], []⟩)
  | some k =>
    let x := y3 a n.t vs0 n.E l k n.r.commit m
    let N := y7 a vs0 n.E (zi (zV m l k) k x.p) l.rounds l.sure
    ({ n with t := j7 N l.rounds n.t, r := { n.r with commit := x.commit }, ld := some (jI N (.slice none 0 0) { l with peers := zi (zV m l k) k x.p, answered := l.answered ++ [(zG l.peers k).2.id], given := x.given }) }, ⟨x.ms, if N = 0 then [] else (l.looks.filter (fun q => q.round ≤ N)).map LookM.rdy, []⟩)
def zDj (a : StA) (m : MsgA) (n : NodA) : Prop := (n.t.vote = 0 ∨ n.t.vote = m.src) ∧ n.r.role ≠ 4 ∧ (LogA.mk 0 0 n.E).fresh m.index m.logTerm ∧ (m.flag = true ∨ ¬ n.t.now - n.t.heard < a.base)
instance (a : StA) (m : MsgA) (n : NodA) : Decidable (zDj a m n) := inferInstanceAs (Decidable (_ ∧ _))
def one (a : StA) (kind dst : Int) (term : Nat) (flag : Bool) : MsgA := ⟨kind, a.id, dst, term, 0, 0, 0, 0, flag, [], ⟨[], []⟩, 0, []⟩
def zBs (x : NodA × List MsgA) : NodA × OutA := (x.1, ⟨x.2, [], []⟩)
def yX (a : StA) (vs0 : List Int) (draw : Nat) (m : MsgA) (n : NodA) : NodA × OutA :=
  if m.kind = 3 then (if zDj a m n then { n with t := { n.t with vote := m.src, due := n.t.now + yl a draw } } else n, ⟨[one a 4 m.src n.t.term (decide (zDj a m n))], [], []⟩)
  else if m.kind = 4 then
    if n.r.role = 3 ∧ m.flag = true then
      let n1 := { n with yes := y5 (za vs0 n.E) n.yes m.src }
      if ((za vs0 n.E).ok ∧ m.src ∈ (za vs0 n.E).vs) ∧ (za vs0 n.E).quorum n1.yes then zBs (kZ a vs0 n1) else (n1, ⟨[], [], []⟩)
    else (n, ⟨[], [], []⟩)
  else if m.kind = 5 then
    if n.r.role = 4 then (n, ⟨[], [], []⟩)
    else zBs (jG a m { n with t := { n.t with heard := n.t.now, due := n.t.now + yl a draw }, r := ⟨1, m.src, n.r.commit⟩, ld := none, yes := [] })
  else if m.kind = 6 ∨ m.kind = 8 then
    match n.ld with
    | none => (n, ⟨[], [], []⟩)
    | some l => jC a vs0 m n l
  else if m.kind = 9 ∧ ((za vs0 n.E).ok ∧ a.id ∈ (za vs0 n.E).vs) ∧ n.r.role ≠ 4 ∧ n.t.term < 4611686018427387904 then zBs (zAY a vs0 draw true n)
  else (n, ⟨[], [], []⟩)
theorem kz {n : NodA} {l : List MsgA} {x : NodA × List MsgA} (h : (n, l) = x) : (n, (⟨l, [], []⟩ : OutA)) = zBs x := by rw [← h]; rfl
theorem zDe {b : Bool} {P : Prop} [Decidable P] (h : b = true ↔ P) : b = decide P := by
  by_cases q : P
  · rw [decide_eq_true q, h.2 q]
  · rw [decide_eq_false q]; cases b
    · rfl
    · exact absurd (h.1 rfl) q
theorem zBy {y : Option (Nat × LdD)} {r : RolD} (h : r.role = 4 ↔ y.isSome = true) (h2 : ¬ r.role = 4) : y = none := by
  cases y with
  | none => rfl
  | some q => exact absurd (h.2 rfl) h2
theorem jR {m : MsgD} {k j : Int} (h : m.kind = k) (h2 : k ≠ j) : ¬ m.a.kind = j := fun q => h2 (h.symm.trans q)
theorem zHF {l : LdD} {p : PeerM} {n : Nat} {g : Bool} : xL l.er p n g = xL l p n g := rfl
theorem zDK {m : MsgA} {l : LdD} {k : Nat} : zV m l.er k = er (zV m l k) := by
  unfold zV
  rw [zCu, show l.er.peers = er l.peers from rfl, zCa]; rfl
theorem zIW {a : StA} {t : TimD} {vs0 : List Int} {E : List EntA} {l : LdD} {k commit : Nat} {m : MsgA} : y3 a t vs0 E l.er k commit m = y3 a t vs0 E l k commit m := by
  unfold y3
  simp only [zDK, zCa, ← zCu, zCE, zHF]
  rfl
theorem zHJ {n : Nat} {kv : Value} {l : LdD} : (jI n kv l).er = jI n (.slice none 0 0) l.er := by unfold jI; split <;> rfl
theorem zFo {a : StA} {t : TimD} {r : RolD} {vs0 : List Int} {lv yv kv av : Value} {es : List EntD} {yes : List Int} {ld : Nat} {l : LdD} {j : Nat} {m : MsgA} {x : AnsR} {P : List PeerP} {N : Nat} (hx : x = y3 a t vs0 (es.map EntD.toEntA) l j r.commit m) (hP : P = zi (zV m l j) j x.p) (hN : N = y7 a vs0 (es.map EntD.toEntA) P l.rounds l.sure) (hix : xI l.peers m.src = some j) :
    ((({ t := j7 N l.rounds t, r := { r with commit := x.commit }, lv := lv, es := es, y := some (ld, jI N kv { l with peers := P, av := av, answered := l.answered ++ [(zG l.peers j).2.id], given := x.given }), yv := yv, yes := yes } : NdD).a, (⟨x.ms, if N = 0 then [] else (l.looks.filter (fun q => q.round ≤ N)).map LookM.rdy, []⟩ : OutA)) : NodA × OutA) = jC a vs0 m { t := t, r := r, E := es.map EntD.toEntA, ld := some l.er, yes := yes } l.er := by
  unfold jC
  rw [show xI l.er.peers m.src = some j from peerIx_er.trans hix]
  dsimp only
  have e1 : zi (zV m l.er j) j x.p = er P := by rw [zDK, ← zCu, hP]
  rw [zIW, ← hx, e1, zGh, show y7 a vs0 (es.map EntD.toEntA) P l.er.rounds l.er.sure = N from hN.symm]
  unfold NdD.a
  rw [Option.map_some, zHJ, show (zG l.er.peers j).2 = (zG l.peers j).2 from zCa]
  rfl
theorem zHb {n : Nat} {rv : Value} {looks : List LookM} {o : OutD} : (ko n rv looks o).msgs = o.msgs := by unfold ko; split <;> rfl
theorem zHR {n : Nat} {rv : Value} {looks : List LookM} {o : OutD} : (ko n rv looks o).losts = o.losts := by unfold ko; split <;> rfl
theorem zHS {n : Nat} {rv : Value} {looks : List LookM} {o : OutD} : (ko n rv looks o).rdys = o.rdys ++ (if n = 0 then [] else (looks.filter (fun q => q.round ≤ n)).map LookM.rdy) := by
  unfold ko
  split
  · rw [List.append_nil]
  · rfl
theorem zFx {S : List Nat} (cb jb : Nat) (t : TimD) (a : StA) (r : RolD) (b : StB) (yv : Value) (draw : Nat) (lv : Value) (es : List EntD) (ob : Nat) (o : OutD) (y : Option (Nat × LdD)) (yes : List Int) (m : MsgD) (w : World) (hg : (LG 0 0 es).good) (hl : es.length ≤ 100000) (hvl : b.vs.length ≤ 12) (hcm : 1 ≤ ((za b.vs (es.map EntD.toEntA)).vs ++ (za b.vs (es.map EntD.toEntA)).ls).length ∧ ((za b.vs (es.map EntD.toEntA)).vs ++ (za b.vs (es.map EntD.toEntA)).ls).length ≤ 12) (htm : (r.role = 3 → 1 ≤ t.term) ∧ t.term ≤ 4611686018427387904) (hen : (LG 0 0 es).end_ ≤ t.term) (hn : 0 ≤ t.now ∧ t.now ≤ 1000000000000000) (hh : 0 ≤ t.heard ∧ t.heard ≤ 1000000000000000) (ho : o.msgs.length ≤ 1000) (hrd : o.rdys.length ≤ 1000) (ha : a.ok) (hd : draw < 18446744073709551616) (hm : m.wf) (hro : r.role = 4 ↔ y.isSome = true) (hld : ∀ q, y = some q → q.2.bd) (hy : yes.length ≤ 1000) (hk : m.kind = 4) (hin : Own w S [ze cb t (yf y) a r b yv jb draw (pt ob), Res.nl b lv es, Res.lo y, vI yv yes, Res.ou ob o] w) (rd_m : MsgD.rd m w S) : Rets Tryz.prog 87 #[pt cb, .agg (MsgD.cells m).toArray] w fun u_ w' => ∃ (n : NdD) (o' : OutD) (x : OutA), u_ = .tuple #[] ∧ (n.a, x) = yX a b.vs draw m.a { t := t, r := r, E := es.map EntD.toEntA, ld := y.map fun q => q.2.er, yes := yes } ∧ o'.msgs.map MsgD.a = o.msgs.map MsgD.a ++ x.ms ∧ o'.rdys = o.rdys ++ x.rdys ∧ o'.losts = o.losts ∧ Own w S [ze cb n.t (yf n.y) a n.r b n.yv jb draw (pt ob), Res.nl b n.lv n.es, Res.lo n.y, vI n.yv n.yes, Res.ou ob o'] w' := by
  have hme := hm.ents
  have k3 := jR (j := 3) hk (by decide)
  have k4 : m.a.kind = 4 := hk
  refine zT Tryz.func87 rfl Tryz.ntmps87 hin ?_
  refine zB (z7 rfl rfl (fun b3 => zA (zB (zJ (o := 0) rfl rfl (zM 5 (v := Vi m.kind) rfl rfl rfl rfl (zA (zc (zB (yZ rfl rfl rfl (zK rfl (zA (y1 rfl (by omega) ?_))))))))))))
  refine zB (yZ rfl rfl rfl (zK rfl (zA (kc rfl hk (zB (zD rfl (zh rfl rfl (zJ (o := 21) rfl rfl (zM 0 (v := Vi r.role) rfl rfl rfl rfl (yZ rfl rfl rfl (zD rfl (yd (q := r.role = 3) 2 5 [88, 87] (m.flag = true) rfl rfl rfl rfl rfl rfl trivial rfl (fun h9_5 => ?_) (fun g9_8 => ?_)))))))))))))
  ·
   refine zO rfl (gT h9_5) (zJ (o := 8) rfl rfl (zO rfl (gT h9_5) (zM 5 (v := .bool m.flag) rfl rfl rfl rfl ?_)))
   exact yK (xC _) (fun _ hw => hw)
  refine zD rfl ?_
  by_cases s9_9 : (r.role = 3) ∧ (m.flag = true)
  ·
   have s1 : r.role = 3 ∧ m.a.flag = true := s9_9
   refine zO rfl (gT s9_9) (zD rfl (zO rfl (gT s9_9) (zJ (o := 1) rfl rfl (zO rfl (gT s9_9) (zM 5 (v := Vi m.src) rfl rfl rfl rfl (zO rfl (gT s9_9) (zH rfl rfl (fun w' hw => (zE5 cb jb t a r b (yf y) yv (pt ob) draw _ _ yes m.src w' ‹_› (by first | omega | (simp <;> omega)) (by first | omega | (simp <;> omega)) (by first | omega | (simp <;> omega)) (hw.give [0, 1, 3] rfl (by decide))).mono ?_))))))))
   rintro _ w1 ⟨yv'1_, rfl, hO⟩
   refine (?_ : CL _ _ _ _ _ _ (Own w S [Res.lo y, Res.ou ob o, Res.row b3 59 (MsgD.cells m), ze cb t (yf y) a r b yv'1_ jb draw (pt ob), Res.nl b lv es, vI yv'1_ (y5 (za b.vs (es.map EntD.toEntA)) yes m.src)])) w1 (hw.frameL [0, 1, 3] rfl hO)
   refine zEz (gT s9_9) rfl (zA (zf rfl (fun c3 => ?_) (fun c3 => ?_)))
   ·
    have s2 : (((za b.vs (es.map EntD.toEntA)).ok ∧ m.a.src ∈ (za b.vs (es.map EntD.toEntA)).vs) ∧ (za b.vs (es.map EntD.toEntA)).quorum (y5 (za b.vs (es.map EntD.toEntA)) yes m.a.src)) := c3
    obtain rfl := zBy hro (by omega)
    refine zW (zD rfl (zH rfl rfl (fun w' hw => (zDh cb jb t a r b yv'1_ draw _ _ ob _ (y5 (za b.vs (es.map EntD.toEntA)) yes m.src) w' ‹_› (by first | omega | (simp <;> omega)) (by first | omega | (simp <;> omega)) (by first | omega | (simp <;> omega) | (constructor <;> (first | omega | (simp <;> omega)))) ⟨htm.1 s9_9.1, htm.2⟩ (by first | omega | (simp <;> omega)) (by first | omega | (simp <;> omega)) (by first | omega | (simp <;> omega)) (hw.give [3, 4, 1] rfl (by decide))).mono ?_)))
    rintro _ w1 ⟨n2_, mv'3_, ms4_, rfl, hf10_1, hO⟩
    refine (?_ : CL _ _ _ _ _ _ (Own w S [Res.lo none, Res.row b3 59 (MsgD.cells m), vI yv'1_ (y5 (za b.vs (es.map EntD.toEntA)) yes m.src), ze cb n2_.t (yf n2_.y) a n2_.r b n2_.yv jb draw (pt ob), Res.nl b n2_.lv n2_.es, Res.lo n2_.y, vI n2_.yv n2_.yes, Res.ou ob ({ o with mv := mv'3_, msgs := o.msgs ++ ms4_ } : OutD)])) w1 (hw.frameL [3, 4, 1] rfl hO)
    exact zj (yM rfl (fun w' hw => ⟨n2_, ({ o with mv := mv'3_, msgs := o.msgs ++ ms4_ } : OutD), ⟨ms4_.map MsgD.a, [], []⟩, rfl, (by unfold yX; dsimp only; rw [if_neg k3, if_pos k4, if_pos s1, if_pos s2]; exact kz hf10_1), List.map_append, (List.append_nil _).symm, rfl, hw.sel [3, 4, 5, 6, 7] rfl (by decide)⟩))
   ·
    have s2 : ¬ (((za b.vs (es.map EntD.toEntA)).ok ∧ m.a.src ∈ (za b.vs (es.map EntD.toEntA)).vs) ∧ (za b.vs (es.map EntD.toEntA)).quorum (y5 (za b.vs (es.map EntD.toEntA)) yes m.a.src)) := c3
    exact yk (yM rfl (fun w' hw => ⟨({ t := t, r := r, lv := lv, es := es, y := y, yv := yv'1_, yes := (y5 (za b.vs (es.map EntD.toEntA)) yes m.src) } : NdD), o, ⟨[], [], []⟩, rfl, (by unfold yX; dsimp only; rw [if_neg k3, if_pos k4, if_pos s1, if_neg s2]; rfl), (List.append_nil _).symm, (List.append_nil _).symm, rfl, hw.sel [3, 4, 0, 5, 1] rfl (by decide)⟩))
  ·
   have s1 : ¬ (r.role = 3 ∧ m.a.flag = true) := s9_9
   refine jk rfl (gF s9_9) rfl rfl (jk rfl (gF s9_9) rfl rfl (jk rfl (gF s9_9) rfl rfl (jk rfl (gF s9_9) rfl rfl (kX (gF s9_9) rfl (zA (x8 rfl ?_))))))
   exact yk (yM rfl (fun w' hw => ⟨({ t := t, r := r, lv := lv, es := es, y := y, yv := yv, yes := yes } : NdD), o, ⟨[], [], []⟩, rfl, (by unfold yX; dsimp only; rw [if_neg k3, if_pos k4, if_neg s1]; rfl), (List.append_nil _).symm, (List.append_nil _).symm, rfl, hw.sel [0, 1, 2, 3, 4] rfl (by decide)⟩))
theorem zFd {S : List Nat} (cb jb : Nat) (t : TimD) (a : StA) (r : RolD) (b : StB) (yv : Value) (draw : Nat) (lv : Value) (es : List EntD) (ob : Nat) (o : OutD) (y : Option (Nat × LdD)) (yes : List Int) (m : MsgD) (w : World) (hg : (LG 0 0 es).good) (hl : es.length ≤ 100000) (hvl : b.vs.length ≤ 12) (hcm : 1 ≤ ((za b.vs (es.map EntD.toEntA)).vs ++ (za b.vs (es.map EntD.toEntA)).ls).length ∧ ((za b.vs (es.map EntD.toEntA)).vs ++ (za b.vs (es.map EntD.toEntA)).ls).length ≤ 12) (htm : (r.role = 3 → 1 ≤ t.term) ∧ t.term ≤ 4611686018427387904) (hen : (LG 0 0 es).end_ ≤ t.term) (hn : 0 ≤ t.now ∧ t.now ≤ 1000000000000000) (hh : 0 ≤ t.heard ∧ t.heard ≤ 1000000000000000) (ho : o.msgs.length ≤ 1000) (hrd : o.rdys.length ≤ 1000) (ha : a.ok) (hd : draw < 18446744073709551616) (hm : m.wf) (hro : r.role = 4 ↔ y.isSome = true) (hld : ∀ q, y = some q → q.2.bd) (hy : yes.length ≤ 1000) (hk : m.kind = 5) (hin : Own w S [ze cb t (yf y) a r b yv jb draw (pt ob), Res.nl b lv es, Res.lo y, vI yv yes, Res.ou ob o] w) (rd_m : MsgD.rd m w S) : Rets Tryz.prog 87 #[pt cb, .agg (MsgD.cells m).toArray] w fun u_ w' => ∃ (n : NdD) (o' : OutD) (x : OutA), u_ = .tuple #[] ∧ (n.a, x) = yX a b.vs draw m.a { t := t, r := r, E := es.map EntD.toEntA, ld := y.map fun q => q.2.er, yes := yes } ∧ o'.msgs.map MsgD.a = o.msgs.map MsgD.a ++ x.ms ∧ o'.rdys = o.rdys ++ x.rdys ∧ o'.losts = o.losts ∧ Own w S [ze cb n.t (yf n.y) a n.r b n.yv jb draw (pt ob), Res.nl b n.lv n.es, Res.lo n.y, vI n.yv n.yes, Res.ou ob o'] w' := by
  have hme := hm.ents
  have k3 := jR (j := 3) hk (by decide)
  have k4 := jR (j := 4) hk (by decide)
  have k5 : m.a.kind = 5 := hk
  have hw1 := kL (draw := draw) ha
  refine zT Tryz.func87 rfl Tryz.ntmps87 hin ?_
  refine zB (z7 rfl rfl (fun b3 => zA (zB (zJ (o := 0) rfl rfl (zM 5 (v := Vi m.kind) rfl rfl rfl rfl (zA (zc (zB (yZ rfl rfl rfl (zK rfl (zA (y1 rfl (by omega) ?_))))))))))))
  refine zB (yZ rfl rfl rfl (zK rfl (zA (y1 rfl (by omega) (zQ (zB (yZ rfl rfl rfl (zK rfl (zA (kc rfl hk (zR (kc rfl hk ?_))))))))))))
  refine zQ (zB (zD rfl (zh rfl rfl (zJ (o := 21) rfl rfl (zM 0 (v := Vi r.role) rfl rfl rfl rfl (yZ rfl rfl rfl (zA (zf rfl (fun c5 => ?_) (fun c5 => ?_)))))))))
  ·
   exact zY (yM rfl (fun w' hw => ⟨({ t := t, r := r, lv := lv, es := es, y := y, yv := yv, yes := yes } : NdD), o, ⟨[], [], []⟩, rfl, (by unfold yX; dsimp only; rw [if_neg k3, if_neg k4, if_pos k5, if_pos c5]; rfl), (List.append_nil _).symm, (List.append_nil _).symm, rfl, hw.sel [0, 1, 2, 3, 4] rfl (by decide)⟩))
  ·
   obtain rfl := zBy hro c5
   refine zR (zB (zD rfl (zJ (o := 1) rfl rfl (zM 5 (v := Vi m.src) rfl rfl rfl rfl (zH rfl rfl (fun w' hw => (x2 cb jb t a r b yv (pt ob) draw m.src w' (hw.give [0] rfl (by decide))).mono ?_))))))
   rintro _ w1 ⟨rfl, hO⟩
   refine (?_ : CL _ _ _ _ _ _ (Own w S [Res.nl b lv es, Res.lo none, vI yv yes, Res.ou ob o, Res.row b3 59 (MsgD.cells m), ze cb t (.pointer none) a ({ role := 1, who := m.src, commit := r.commit } : RolD) b (.slice none 0 0) jb draw (pt ob)])) w1 (hw.frameL [0] rfl hO)
   refine zA (zB (zD rfl (zD rfl (zh rfl rfl (zJ (o := 2) rfl rfl (zJ (o := 0) rfl rfl (zM 5 (v := Vi t.now) rfl rfl rfl rfl (zh rfl rfl (zJ (o := 2) rfl rfl (zJ (o := 1) rfl rfl (zo 5 rfl rfl rfl rfl rfl (zA ?_))))))))))))
   refine zAW ([(0, pt cb), (3, pt b3)]) (True) ([ze cb ({ t with heard := t.now, due := t.now + yl a draw } : TimD) (.pointer none) a ({ role := 1, who := m.src, commit := r.commit } : RolD) b (.slice none 0 0) jb draw (pt ob), Res.nl b lv es, Res.ou ob o, Res.row b3 59 (MsgD.cells m)]) ?_ (fun g hΦ => ?_)
   ·
    refine zk [0, 1, 2, 3, 4] rfl (by decide) (by kernel_rfl) (fun w' hw hS => zC 0 rfl (zU) hS (zC 1 rfl (zU) hS (zC 2 rfl (zP rfl) hS (zC 3 rfl (zI (o := 2) rfl) hS (zC 4 rfl (zI (o := 0) rfl) hS (zC 6 rfl (zU) hS (yA 5 7 ?_ ?_)))))))
    ·
     refine zr 5 rfl hw (zM 5 (v := Vi t.now) rfl rfl rfl rfl (zE [0, 1, 2, 3, 4] rfl (by decide) (fun w' hw hS => zN 7 rfl hw (zH rfl rfl (fun w' hw => (x9 cb jb ({ t with heard := t.now } : TimD) a ({ role := 1, who := m.src, commit := r.commit } : RolD) b (.pointer none) (.slice none 0 0) (pt ob) draw w' ‹_› (by first | omega | (simp <;> omega)) (hw.give [5] rfl (by decide))).mono ?_)))))
     rintro _ w1 ⟨rfl, hO⟩
     refine (?_ : CL _ _ _ _ _ _ (Own w S [Res.nl b lv es, Res.lo none, vI yv yes, Res.ou ob o, Res.row b3 59 (MsgD.cells m), ze cb ({ t with heard := t.now } : TimD) (.pointer none) a ({ role := 1, who := m.src, commit := r.commit } : RolD) b (.slice none 0 0) jb draw (pt ob)])) w1 (hw.frameL [5] rfl hO)
     refine zE [0, 1, 2, 3, 4] rfl (by decide) (fun w' hw hS => zC 8 rfl (yw rfl rfl (zy (by omega))) hS (zC 9 rfl (zP rfl) hS (zC 10 rfl (zI (o := 2) rfl) hS (zC 11 rfl (zI (o := 2) rfl) hS (zN 12 rfl hw (zo 5 rfl rfl rfl rfl rfl (zE [0, 1, 2, 3, 4] rfl (by decide) (fun w' hw hS => zX ?_))))))))
     exact ⟨⟨rfl, rfl, trivial⟩, trivial, hw.sel [5, 0, 3, 4] rfl (by decide)⟩
    ·
     refine zr 7 rfl hw (zH rfl rfl (fun w' hw => (x9 cb jb ({ t with heard := t.now } : TimD) a ({ role := 1, who := m.src, commit := r.commit } : RolD) b (.pointer none) (.slice none 0 0) (pt ob) draw w' ‹_› (by first | omega | (simp <;> omega)) (hw.give [5] rfl (by decide))).mono ?_))
     rintro _ w1 ⟨rfl, hO⟩
     refine (?_ : CL _ _ _ _ _ _ (Own w S [Res.nl b lv es, Res.lo none, vI yv yes, Res.ou ob o, Res.row b3 59 (MsgD.cells m), ze cb ({ t with heard := t.now } : TimD) (.pointer none) a ({ role := 1, who := m.src, commit := r.commit } : RolD) b (.slice none 0 0) jb draw (pt ob)])) w1 (hw.frameL [5] rfl hO)
     refine zE [0, 1, 2, 3, 4] rfl (by decide) (fun w' hw hS => zN 5 rfl hw (zM 5 (v := Vi t.now) rfl rfl rfl rfl (zE [0, 1, 2, 3, 4] rfl (by decide) (fun w' hw hS => zC 8 rfl (yw rfl rfl (zy (by omega))) hS (zC 9 rfl (zP rfl) hS (zC 10 rfl (zI (o := 2) rfl) hS (zC 11 rfl (zI (o := 2) rfl) hS (zN 12 rfl hw (zo 5 rfl rfl rfl rfl rfl (zE [0, 1, 2, 3, 4] rfl (by decide) (fun w' hw hS => zX ?_)))))))))))
     exact ⟨⟨rfl, rfl, trivial⟩, trivial, hw.sel [5, 0, 3, 4] rfl (by decide)⟩
   refine zB (zJ (o := 0) rfl rfl (zM 3 (v := Vi m.kind) rfl rfl rfl rfl (yZ rfl rfl rfl (zA (kc rfl hk (zW (zD rfl (yY (cs := (MsgD.cells m)) 3 rfl rfl rfl (zH rfl rfl (fun w' hw => (zGX cb jb ({ t with heard := t.now, due := t.now + yl a draw } : TimD) a ({ role := 1, who := m.src, commit := r.commit } : RolD) b draw _ _ ob _ m w' ‹_› (by first | omega | (simp <;> omega)) ‹_› (by first | omega | (simp <;> omega)) (hw.give [0, 1, 2] rfl (by decide)) (rd_m.at hw [0, 1, 2] rfl)).mono ?_))))))))))
   rintro _ w1 ⟨n1_, mv'2_, ms3_, rfl, hf18_2, hO⟩
   refine (?_ : CL _ _ _ _ _ _ (Own w S [Res.row b3 59 (MsgD.cells m), ze cb n1_.t (yf n1_.y) a n1_.r b n1_.yv jb draw (pt ob), Res.nl b n1_.lv n1_.es, Res.lo n1_.y, vI n1_.yv n1_.yes, Res.ou ob ({ o with mv := mv'2_, msgs := o.msgs ++ ms3_ } : OutD)])) w1 (hw.frameL [0, 1, 2] rfl hO)
   exact zj (yM rfl (fun w' hw => ⟨n1_, ({ o with mv := mv'2_, msgs := o.msgs ++ ms3_ } : OutD), ⟨ms3_.map MsgD.a, [], []⟩, rfl, (by unfold yX; dsimp only; rw [if_neg k3, if_neg k4, if_pos k5, if_neg c5]; exact kz hf18_2), List.map_append, (List.append_nil _).symm, rfl, hw.sel [1, 2, 3, 4, 5] rfl (by decide)⟩))
theorem zF4 {S : List Nat} (cb jb : Nat) (t : TimD) (a : StA) (r : RolD) (b : StB) (yv : Value) (draw : Nat) (lv : Value) (es : List EntD) (ob : Nat) (o : OutD) (y : Option (Nat × LdD)) (yes : List Int) (m : MsgD) (w : World) (hg : (LG 0 0 es).good) (hl : es.length ≤ 100000) (hvl : b.vs.length ≤ 12) (hcm : 1 ≤ ((za b.vs (es.map EntD.toEntA)).vs ++ (za b.vs (es.map EntD.toEntA)).ls).length ∧ ((za b.vs (es.map EntD.toEntA)).vs ++ (za b.vs (es.map EntD.toEntA)).ls).length ≤ 12) (htm : (r.role = 3 → 1 ≤ t.term) ∧ t.term ≤ 4611686018427387904) (hen : (LG 0 0 es).end_ ≤ t.term) (hn : 0 ≤ t.now ∧ t.now ≤ 1000000000000000) (hh : 0 ≤ t.heard ∧ t.heard ≤ 1000000000000000) (ho : o.msgs.length ≤ 1000) (hrd : o.rdys.length ≤ 1000) (ha : a.ok) (hd : draw < 18446744073709551616) (hm : m.wf) (hro : r.role = 4 ↔ y.isSome = true) (hld : ∀ q, y = some q → q.2.bd) (hy : yes.length ≤ 1000) (hk : m.kind = 6) (hin : Own w S [ze cb t (yf y) a r b yv jb draw (pt ob), Res.nl b lv es, Res.lo y, vI yv yes, Res.ou ob o] w) (rd_m : MsgD.rd m w S) : Rets Tryz.prog 87 #[pt cb, .agg (MsgD.cells m).toArray] w fun u_ w' => ∃ (n : NdD) (o' : OutD) (x : OutA), u_ = .tuple #[] ∧ (n.a, x) = yX a b.vs draw m.a { t := t, r := r, E := es.map EntD.toEntA, ld := y.map fun q => q.2.er, yes := yes } ∧ o'.msgs.map MsgD.a = o.msgs.map MsgD.a ++ x.ms ∧ o'.rdys = o.rdys ++ x.rdys ∧ o'.losts = o.losts ∧ Own w S [ze cb n.t (yf n.y) a n.r b n.yv jb draw (pt ob), Res.nl b n.lv n.es, Res.lo n.y, vI n.yv n.yes, Res.ou ob o'] w' := by
  have hme := hm.ents
  have k3 := jR (j := 3) hk (by decide)
  have k4 := jR (j := 4) hk (by decide)
  have k5 := jR (j := 5) hk (by decide)
  have k6 : m.a.kind = 6 ∨ m.a.kind = 8 := .inl hk
  refine zT Tryz.func87 rfl Tryz.ntmps87 hin ?_
  refine zB (z7 rfl rfl (fun b3 => zA (zB (zJ (o := 0) rfl rfl (zM 5 (v := Vi m.kind) rfl rfl rfl rfl (zA (zc (zB (yZ rfl rfl rfl (zK rfl (zA (y1 rfl (by omega) ?_))))))))))))
  refine zB (yZ rfl rfl rfl (zK rfl (zA (y1 rfl (by omega) (zQ (zB (yZ rfl rfl rfl (zK rfl (zA (y1 rfl (by omega) (zW (yZ rfl rfl rfl ?_))))))))))))
  refine zK rfl (zA (y1 rfl (by omega) (zQ (zB (yZ rfl rfl rfl (zK rfl (zA (kc rfl hk (zR (kc rfl hk (zB (zD rfl ?_))))))))))))
  refine zh rfl rfl (zJ (o := 21) rfl rfl (zM 0 (v := Vi r.role) rfl rfl rfl rfl (yZ rfl rfl rfl (zA (zf rfl (fun c7 => ?_) (fun c7 => ?_))))))
  ·
   obtain ⟨⟨ld, l⟩, rfl⟩ := Option.isSome_iff_exists.1 (hro.1 c7)
   have hb := hld _ rfl
   have hbp := hb.peers
   refine zB (zD rfl (zJ (o := 1) rfl rfl (zM 5 (v := Vi m.src) rfl rfl rfl rfl (zH rfl rfl (fun w' hw => (zEW cb jb t a r b yv (pt ob) draw ld _ m.src w' (by first | omega | (simp <;> omega)) (hw.give [0, 2] rfl (by decide))).mono ?_)))))
   rintro _ w1 ⟨pv1_, rfl, hf23_3, hO⟩
   refine (?_ : CL _ _ _ _ _ _ (Own w S [Res.nl b lv es, vI yv yes, Res.ou ob o, Res.row b3 59 (MsgD.cells m), ze cb t (pt ld) a r b yv jb draw (pt ob), Res.ld ld l])) w1 (hw.frameL [0, 2] rfl hO)
   refine zK rfl (zA (zB (zD rfl (jw (by kernel_rfl) rfl rfl rfl (zA (ja rfl (fun c8 => ?_) (fun c8 => ?_)))))))
   ·
    obtain ⟨j, hj, rfl, hji, hix⟩ := PeerIs.some hf23_3 c8
    refine zW (zD rfl (zD rfl (yY (cs := (MsgD.cells m)) 3 rfl rfl rfl (zH rfl rfl (fun w' hw => (zGl cb jb t a r b yv draw _ _ ld _ ob _ j m w' ‹_› (by first | omega | (simp <;> omega)) (by first | omega | (simp <;> omega)) hb.peers hj (by first | omega | (simp <;> omega)) hb.each (by have := hb.rounds; omega) (by rw [List.length_append] at hcm; omega) hb.round hb.looks (by omega) hb.answered (hw.give [4, 0, 5, 2] rfl (by decide)) (rd_m.at hw [4, 0, 5, 2] rfl)).mono ?_)))))
    rintro _ w1 ⟨mv'2_, rv'3_, av'4_, kv'5_, ms6_, rfl, hf25_3, hO⟩
    refine (?_ : CL _ _ _ _ _ _ (Own w S [vI yv yes, Res.row b3 59 (MsgD.cells m), ze cb (j7 (y7 a b.vs (es.map EntD.toEntA) (zi (zV m.a l j) j (y3 a t b.vs (es.map EntD.toEntA) l j r.commit m.a).p) l.rounds l.sure) l.rounds t) (pt ld) a ({ r with commit := (y3 a t b.vs (es.map EntD.toEntA) l j r.commit m.a).commit } : RolD) b yv jb draw (pt ob), Res.nl b lv es, Res.ld ld (jI (y7 a b.vs (es.map EntD.toEntA) (zi (zV m.a l j) j (y3 a t b.vs (es.map EntD.toEntA) l j r.commit m.a).p) l.rounds l.sure) kv'5_ { l with peers := (zi (zV m.a l j) j (y3 a t b.vs (es.map EntD.toEntA) l j r.commit m.a).p), av := av'4_, answered := l.answered ++ [(zG l.peers j).2.id], given := (y3 a t b.vs (es.map EntD.toEntA) l j r.commit m.a).given }), Res.ou ob (ko (y7 a b.vs (es.map EntD.toEntA) (zi (zV m.a l j) j (y3 a t b.vs (es.map EntD.toEntA) l j r.commit m.a).p) l.rounds l.sure) rv'3_ l.looks { o with mv := mv'2_, msgs := o.msgs ++ ms6_ })])) w1 (hw.frameL [4, 0, 5, 2] rfl hO)
    exact zj (yM rfl (fun w' hw => ⟨({ t := j7 (y7 a b.vs (es.map EntD.toEntA) (zi (zV m.a l j) j (y3 a t b.vs (es.map EntD.toEntA) l j r.commit m.a).p) l.rounds l.sure) l.rounds t, r := { r with commit := (y3 a t b.vs (es.map EntD.toEntA) l j r.commit m.a).commit }, lv := lv, es := es, y := some (ld, jI (y7 a b.vs (es.map EntD.toEntA) (zi (zV m.a l j) j (y3 a t b.vs (es.map EntD.toEntA) l j r.commit m.a).p) l.rounds l.sure) kv'5_ { l with peers := (zi (zV m.a l j) j (y3 a t b.vs (es.map EntD.toEntA) l j r.commit m.a).p), av := av'4_, answered := l.answered ++ [(zG l.peers j).2.id], given := (y3 a t b.vs (es.map EntD.toEntA) l j r.commit m.a).given }), yv := yv, yes := yes } : NdD), (ko (y7 a b.vs (es.map EntD.toEntA) (zi (zV m.a l j) j (y3 a t b.vs (es.map EntD.toEntA) l j r.commit m.a).p) l.rounds l.sure) rv'3_ l.looks ({ o with mv := mv'2_, msgs := o.msgs ++ ms6_ } : OutD)), ⟨(y3 a t b.vs (es.map EntD.toEntA) l j r.commit m.a).ms, if (y7 a b.vs (es.map EntD.toEntA) (zi (zV m.a l j) j (y3 a t b.vs (es.map EntD.toEntA) l j r.commit m.a).p) l.rounds l.sure) = 0 then [] else (l.looks.filter (fun q => q.round ≤ (y7 a b.vs (es.map EntD.toEntA) (zi (zV m.a l j) j (y3 a t b.vs (es.map EntD.toEntA) l j r.commit m.a).p) l.rounds l.sure))).map LookM.rdy, []⟩, rfl, (by unfold yX; dsimp only; rw [if_neg k3, if_neg k4, if_neg k5, if_pos k6]; exact zFo rfl rfl rfl hix), (by rw [zHb, List.map_append, hf25_3]), zHS, zHR, hw.sel [2, 3, 4, 0, 5] rfl (by decide)⟩))
   ·
    have hix := PeerIs.none hf23_3 c8
    exact yk (yM rfl (fun w' hw => ⟨({ t := t, r := r, lv := lv, es := es, y := some (ld, l), yv := yv, yes := yes } : NdD), o, ⟨[], [], []⟩, rfl, (by unfold yX jC; dsimp only; rw [if_neg k3, if_neg k4, if_neg k5, if_pos k6]; show _ = (match xI l.er.peers m.src with | none => _ | some k => _); rw [show xI l.er.peers m.src = none from peerIx_er.trans hix]; rfl), (List.append_nil _).symm, (List.append_nil _).symm, rfl, hw.sel [4, 0, 5, 1, 2] rfl (by decide)⟩))
  ·
   obtain rfl := zBy hro c7
   exact yk (yM rfl (fun w' hw => ⟨({ t := t, r := r, lv := lv, es := es, y := none, yv := yv, yes := yes } : NdD), o, ⟨[], [], []⟩, rfl, (by unfold yX; dsimp only; rw [if_neg k3, if_neg k4, if_neg k5, if_pos k6]; rfl), (List.append_nil _).symm, (List.append_nil _).symm, rfl, hw.sel [0, 1, 2, 3, 4] rfl (by decide)⟩))
theorem zF2 {S : List Nat} (cb jb : Nat) (t : TimD) (a : StA) (r : RolD) (b : StB) (yv : Value) (draw : Nat) (lv : Value) (es : List EntD) (ob : Nat) (o : OutD) (y : Option (Nat × LdD)) (yes : List Int) (m : MsgD) (w : World) (hg : (LG 0 0 es).good) (hl : es.length ≤ 100000) (hvl : b.vs.length ≤ 12) (hcm : 1 ≤ ((za b.vs (es.map EntD.toEntA)).vs ++ (za b.vs (es.map EntD.toEntA)).ls).length ∧ ((za b.vs (es.map EntD.toEntA)).vs ++ (za b.vs (es.map EntD.toEntA)).ls).length ≤ 12) (htm : (r.role = 3 → 1 ≤ t.term) ∧ t.term ≤ 4611686018427387904) (hen : (LG 0 0 es).end_ ≤ t.term) (hn : 0 ≤ t.now ∧ t.now ≤ 1000000000000000) (hh : 0 ≤ t.heard ∧ t.heard ≤ 1000000000000000) (ho : o.msgs.length ≤ 1000) (hrd : o.rdys.length ≤ 1000) (ha : a.ok) (hd : draw < 18446744073709551616) (hm : m.wf) (hro : r.role = 4 ↔ y.isSome = true) (hld : ∀ q, y = some q → q.2.bd) (hy : yes.length ≤ 1000) (hk : (m.kind ≠ 3 ∧ m.kind ≠ 4 ∧ m.kind ≠ 5) ∧ (m.kind ≠ 6 ∧ m.kind ≠ 7 ∧ m.kind ≠ 8) ∧ m.kind ≠ 9) (hin : Own w S [ze cb t (yf y) a r b yv jb draw (pt ob), Res.nl b lv es, Res.lo y, vI yv yes, Res.ou ob o] w) (rd_m : MsgD.rd m w S) : Rets Tryz.prog 87 #[pt cb, .agg (MsgD.cells m).toArray] w fun u_ w' => ∃ (n : NdD) (o' : OutD) (x : OutA), u_ = .tuple #[] ∧ (n.a, x) = yX a b.vs draw m.a { t := t, r := r, E := es.map EntD.toEntA, ld := y.map fun q => q.2.er, yes := yes } ∧ o'.msgs.map MsgD.a = o.msgs.map MsgD.a ++ x.ms ∧ o'.rdys = o.rdys ++ x.rdys ∧ o'.losts = o.losts ∧ Own w S [ze cb n.t (yf n.y) a n.r b n.yv jb draw (pt ob), Res.nl b n.lv n.es, Res.lo n.y, vI n.yv n.yes, Res.ou ob o'] w' := by
  have hme := hm.ents
  refine zT Tryz.func87 rfl Tryz.ntmps87 hin ?_
  refine zB (z7 rfl rfl (fun b3 => zA (zB (zJ (o := 0) rfl rfl (zM 5 (v := Vi m.kind) rfl rfl rfl rfl (zA (zc (zB (yZ rfl rfl rfl (zK rfl (zA (y1 rfl (by omega) ?_))))))))))))
  refine zB (yZ rfl rfl rfl (zK rfl (zA (y1 rfl (by omega) (zQ (zB (yZ rfl rfl rfl (zK rfl (zA (y1 rfl (by omega) (zW (yZ rfl rfl rfl ?_))))))))))))
  refine zK rfl (zA (y1 rfl (by omega) (zQ (zB (yZ rfl rfl rfl (zK rfl (zA (y1 rfl (by omega) (zW (yZ rfl rfl rfl (zK rfl (zA ?_))))))))))))
  refine y1 rfl (by omega) (zB (yZ rfl rfl rfl (zK rfl (zA (y1 rfl (by omega) ?_)))))
  exact yk (yM rfl (fun w' hw => ⟨({ t := t, r := r, lv := lv, es := es, y := y, yv := yv, yes := yes } : NdD), o, ⟨[], [], []⟩, rfl, (by unfold yX; dsimp only; rw [if_neg (show ¬ m.a.kind = 3 from hk.1.1), if_neg (show ¬ m.a.kind = 4 from hk.1.2.1), if_neg (show ¬ m.a.kind = 5 from hk.1.2.2), if_neg (show ¬ (m.a.kind = 6 ∨ m.a.kind = 8) from fun q => q.elim hk.2.1.1 hk.2.1.2.2), if_neg (fun q => hk.2.2 q.1)]; rfl), (List.append_nil _).symm, (List.append_nil _).symm, rfl, hw.sel [0, 1, 2, 3, 4] rfl (by decide)⟩))
theorem zFm {S : List Nat} (cb jb : Nat) (t : TimD) (a : StA) (r : RolD) (b : StB) (yv : Value) (draw : Nat) (lv : Value) (es : List EntD) (ob : Nat) (o : OutD) (y : Option (Nat × LdD)) (yes : List Int) (m : MsgD) (w : World) (hg : (LG 0 0 es).good) (hl : es.length ≤ 100000) (hvl : b.vs.length ≤ 12) (hcm : 1 ≤ ((za b.vs (es.map EntD.toEntA)).vs ++ (za b.vs (es.map EntD.toEntA)).ls).length ∧ ((za b.vs (es.map EntD.toEntA)).vs ++ (za b.vs (es.map EntD.toEntA)).ls).length ≤ 12) (htm : (r.role = 3 → 1 ≤ t.term) ∧ t.term ≤ 4611686018427387904) (hen : (LG 0 0 es).end_ ≤ t.term) (hn : 0 ≤ t.now ∧ t.now ≤ 1000000000000000) (hh : 0 ≤ t.heard ∧ t.heard ≤ 1000000000000000) (ho : o.msgs.length ≤ 1000) (hrd : o.rdys.length ≤ 1000) (ha : a.ok) (hd : draw < 18446744073709551616) (hm : m.wf) (hro : r.role = 4 ↔ y.isSome = true) (hld : ∀ q, y = some q → q.2.bd) (hy : yes.length ≤ 1000) (hk : m.kind = 9) (hin : Own w S [ze cb t (yf y) a r b yv jb draw (pt ob), Res.nl b lv es, Res.lo y, vI yv yes, Res.ou ob o] w) (rd_m : MsgD.rd m w S) : Rets Tryz.prog 87 #[pt cb, .agg (MsgD.cells m).toArray] w fun u_ w' => ∃ (n : NdD) (o' : OutD) (x : OutA), u_ = .tuple #[] ∧ (n.a, x) = yX a b.vs draw m.a { t := t, r := r, E := es.map EntD.toEntA, ld := y.map fun q => q.2.er, yes := yes } ∧ o'.msgs.map MsgD.a = o.msgs.map MsgD.a ++ x.ms ∧ o'.rdys = o.rdys ++ x.rdys ∧ o'.losts = o.losts ∧ Own w S [ze cb n.t (yf n.y) a n.r b n.yv jb draw (pt ob), Res.nl b n.lv n.es, Res.lo n.y, vI n.yv n.yes, Res.ou ob o'] w' := by
  have hme := hm.ents
  have k3 := jR (j := 3) hk (by decide)
  have k4 := jR (j := 4) hk (by decide)
  have k5 := jR (j := 5) hk (by decide)
  have k6 : ¬ (m.a.kind = 6 ∨ m.a.kind = 8) := fun q => q.elim (jR hk (by decide)) (jR hk (by decide))
  refine zT Tryz.func87 rfl Tryz.ntmps87 hin ?_
  refine zB (z7 rfl rfl (fun b3 => zA (zB (zJ (o := 0) rfl rfl (zM 5 (v := Vi m.kind) rfl rfl rfl rfl (zA (zc (zB (yZ rfl rfl rfl (zK rfl (zA (y1 rfl (by omega) ?_))))))))))))
  refine zB (yZ rfl rfl rfl (zK rfl (zA (y1 rfl (by omega) (zQ (zB (yZ rfl rfl rfl (zK rfl (zA (y1 rfl (by omega) (zW (yZ rfl rfl rfl ?_))))))))))))
  refine zK rfl (zA (y1 rfl (by omega) (zQ (zB (yZ rfl rfl rfl (zK rfl (zA (y1 rfl (by omega) (zW (yZ rfl rfl rfl (zK rfl (zA ?_))))))))))))
  refine y1 rfl (by omega) (zB (yZ rfl rfl rfl (zK rfl (zA (kc rfl hk (zQ (zk [0, 1, 2, 3, 4, 5] rfl (by decide) (by kernel_rfl) (fun w' hw hS => zC 0 rfl (zU) hS (zC 2 rfl (zU) hS (zC 3 rfl (zP rfl) hS (zC 4 rfl (zI (o := 10) rfl) hS (zC 5 rfl (zb 0 (v := Vi a.id) rfl rfl rfl) hS ?_))))))))))))
  refine zN 1 rfl hw (zH rfl rfl (fun w' hw => (xW cb jb t a r b (yf y) yv (pt ob) draw _ _ w' ‹_› (by first | omega | (simp <;> omega)) (by first | omega | (simp <;> omega)) (hw.give [0, 1] rfl (by decide))).mono ?_))
  rintro _ w1 ⟨cv1_, cw2_, F3_, rfl, hf27_1, hO⟩
  have hFl : F3_.vs.length ≤ 1000 ∧ F3_.ls.length ≤ 1000 := by rw [hf27_1]; exact yi (by omega)
  refine (?_ : CL _ _ _ _ _ _ (Own w S [Res.lo y, vI yv yes, Res.ou ob o, Res.row b3 59 (MsgD.cells m), ze cb t (yf y) a r b yv jb draw (pt ob), Res.nl b lv es, vI cv1_ F3_.vs, vI cw2_ F3_.ls])) w1 (hw.frameL [0, 1] rfl hO)
  refine zE [4, 5, 0, 1, 2, 3] rfl (by decide) (fun w' hw hS => zN 6 rfl hw (zH rfl rfl (fun w' hw => (zCZ ({ vv := cv1_, vs := F3_.vs, lv := cw2_, ls := F3_.ls } : ConfD) a.id w' (by first | assumption | omega | (simp <;> omega) | (constructor <;> (first | omega | (simp only [zd]; omega) | (simp <;> omega)))) ⟨(hw.rdVec0 6 rfl), (hw.rdVec0 7 rfl)⟩).mono ?_)))
  rintro _ w1 ⟨rfl, hO⟩
  refine (?_ : CL _ _ _ _ _ _ (Own w S [Res.lo y, vI yv yes, Res.ou ob o, Res.row b3 59 (MsgD.cells m), ze cb t (yf y) a r b yv jb draw (pt ob), Res.nl b lv es, vI cv1_ F3_.vs, vI cw2_ F3_.ls])) w1 (hw.frame0 hO)
  refine zE [4, 5, 0, 1, 2, 3] rfl (by decide) (fun w' hw hS => zC 7 rfl (zU) hS ?_)
  by_cases g27_7 : ({ vv := cv1_, vs := F3_.vs, lv := cw2_, ls := F3_.ls } : ConfD).ok ∧ a.id ∈ ({ vv := cv1_, vs := F3_.vs, lv := cw2_, ls := F3_.ls } : ConfD).vs
  ·
   refine zZ 8 rfl rfl (gT g27_7) (zU) hS (zZ 9 rfl rfl (gT g27_7) (zP rfl) hS (zZ 10 rfl rfl (gT g27_7) (zI (o := 21) rfl) hS (zZ 11 rfl rfl (gT g27_7) (zb 0 (v := Vi r.role) rfl rfl rfl) hS (zZ 12 rfl rfl (gT g27_7) (zFv rfl rfl) hS (zC 13 rfl (yb (gT g27_7)) hS (zC 14 rfl (zU) hS ?_))))))
   by_cases g27_14 : r.role ≠ 4
   ·
    refine zZ 15 rfl rfl (gT g27_14) (zU) hS (zZ 16 rfl rfl (gT g27_14) (zP rfl) hS (zZ 17 rfl rfl (gT g27_14) (zI (o := 0) rfl) hS (zZ 18 rfl rfl (gT g27_14) (zI (o := 0) rfl) hS (zZ 19 rfl rfl (gT g27_14) (zb 0 (v := Vn t.term) rfl rfl rfl) hS (zZ 20 rfl rfl (gT g27_14) (zAo rfl rfl) hS (zC 21 rfl (yb (gT g27_14)) hS (zX ?_)))))))
    refine (?_ : C _ _ _ _ _ _ _ (Own w S [Res.lo y, vI yv yes, Res.ou ob o, Res.row b3 59 (MsgD.cells m), ze cb t (yf y) a r b yv jb draw (pt ob), Res.nl b lv es, vI cv1_ F3_.vs, vI cw2_ F3_.ls])) _ hw
    refine zf rfl (fun c8 => ?_) (fun c8 => ?_)
    ·
     obtain rfl := zBy hro g27_14
     have hq : (za b.vs (es.map EntD.toEntA)).ok ∧ a.id ∈ (za b.vs (es.map EntD.toEntA)).vs := by rw [← hf27_1]; exact g27_7
     refine zW (zD rfl (zH rfl rfl (fun w' hw => (zCQ cb jb t a r b yv draw _ _ ob _ true yes w' ‹_› (by first | omega | (simp <;> omega)) (by first | omega | (simp <;> omega)) (by first | omega | (simp <;> omega) | (constructor <;> (first | omega | (simp <;> omega)))) (by first | omega | (simp <;> omega)) (by first | omega | (simp <;> omega)) (by first | omega | (simp <;> omega)) (by first | omega | (simp <;> omega)) ‹_› (by first | omega | (simp <;> omega)) (hw.give [4, 5, 2] rfl (by decide))).mono ?_)))
     rintro _ w1 ⟨n4_, mv'5_, ms6_, rfl, hf28_1, hO⟩
     refine (?_ : CL _ _ _ _ _ _ (Own w S [Res.lo none, vI yv yes, Res.row b3 59 (MsgD.cells m), vI cv1_ F3_.vs, vI cw2_ F3_.ls, ze cb n4_.t (yf n4_.y) a n4_.r b n4_.yv jb draw (pt ob), Res.nl b n4_.lv n4_.es, Res.lo n4_.y, vI n4_.yv n4_.yes, Res.ou ob ({ o with mv := mv'5_, msgs := o.msgs ++ ms6_ } : OutD)])) w1 (hw.frameL [4, 5, 2] rfl hO)
     exact zj (yM rfl (fun w' hw => ⟨n4_, ({ o with mv := mv'5_, msgs := o.msgs ++ ms6_ } : OutD), ⟨ms6_.map MsgD.a, [], []⟩, rfl, (by unfold yX; dsimp only; rw [if_neg k3, if_neg k4, if_neg k5, if_neg k6, if_pos ⟨show m.a.kind = 9 from hk, hq, g27_14, by omega⟩]; exact kz hf28_1), List.map_append, (List.append_nil _).symm, rfl, hw.sel [5, 6, 7, 8, 9] rfl (by decide)⟩))
    ·
     exact yk (yM rfl (fun w' hw => ⟨({ t := t, r := r, lv := lv, es := es, y := y, yv := yv, yes := yes } : NdD), o, ⟨[], [], []⟩, rfl, (by unfold yX; dsimp only; rw [if_neg k3, if_neg k4, if_neg k5, if_neg k6, if_neg (fun q => c8 (by have h := q.2.2.2; omega))]; rfl), (List.append_nil _).symm, (List.append_nil _).symm, rfl, hw.sel [4, 5, 0, 1, 2] rfl (by decide)⟩))
   ·
    refine zS 15 rfl rfl (gF g27_14) rfl hS (zS 16 rfl rfl (gF g27_14) rfl hS (zS 17 rfl rfl (gF g27_14) rfl hS (zS 18 rfl rfl (gF g27_14) rfl hS (zS 19 rfl rfl (gF g27_14) rfl hS (zS 20 rfl rfl (gF g27_14) rfl hS (zC 21 rfl (yG (gF g27_14)) hS (zX ?_)))))))
    refine (?_ : C _ _ _ _ _ _ _ (Own w S [Res.lo y, vI yv yes, Res.ou ob o, Res.row b3 59 (MsgD.cells m), ze cb t (yf y) a r b yv jb draw (pt ob), Res.nl b lv es, vI cv1_ F3_.vs, vI cw2_ F3_.ls])) _ hw
    refine x8 rfl ?_
    exact yk (yM rfl (fun w' hw => ⟨({ t := t, r := r, lv := lv, es := es, y := y, yv := yv, yes := yes } : NdD), o, ⟨[], [], []⟩, rfl, (by unfold yX; dsimp only; rw [if_neg k3, if_neg k4, if_neg k5, if_neg k6, if_neg (fun q => g27_14 q.2.2.1)]; rfl), (List.append_nil _).symm, (List.append_nil _).symm, rfl, hw.sel [4, 5, 0, 1, 2] rfl (by decide)⟩))
  ·
   refine zS 8 rfl rfl (gF g27_7) rfl hS (zS 9 rfl rfl (gF g27_7) rfl hS (zS 10 rfl rfl (gF g27_7) rfl hS (zS 11 rfl rfl (gF g27_7) rfl hS (zS 12 rfl rfl (gF g27_7) rfl hS (zC 13 rfl (yG (gF g27_7)) hS (zC 14 rfl (zU) hS (zS 15 rfl rfl rfl rfl hS (zS 16 rfl rfl rfl rfl hS (zS 17 rfl rfl rfl rfl hS (zS 18 rfl rfl rfl rfl hS (zS 19 rfl rfl rfl rfl hS (zS 20 rfl rfl rfl rfl hS ?_))))))))))))
   refine zC 21 rfl (yG rfl) hS (zX ?_)
   refine (?_ : C _ _ _ _ _ _ _ (Own w S [Res.lo y, vI yv yes, Res.ou ob o, Res.row b3 59 (MsgD.cells m), ze cb t (yf y) a r b yv jb draw (pt ob), Res.nl b lv es, vI cv1_ F3_.vs, vI cw2_ F3_.ls])) _ hw
   refine x8 rfl ?_
   exact yk (yM rfl (fun w' hw => ⟨({ t := t, r := r, lv := lv, es := es, y := y, yv := yv, yes := yes } : NdD), o, ⟨[], [], []⟩, rfl, (by unfold yX; dsimp only; rw [if_neg k3, if_neg k4, if_neg k5, if_neg k6, if_neg (fun q => g27_7 (by have h := q.2.1; rw [← hf27_1] at h; exact h))]; rfl), (List.append_nil _).symm, (List.append_nil _).symm, rfl, hw.sel [4, 5, 0, 1, 2] rfl (by decide)⟩))
theorem zFX {S : List Nat} (cb jb : Nat) (t : TimD) (a : StA) (r : RolD) (b : StB) (yv : Value) (draw : Nat) (lv : Value) (es : List EntD) (ob : Nat) (o : OutD) (y : Option (Nat × LdD)) (yes : List Int) (m : MsgD) (w : World) (hg : (LG 0 0 es).good) (hl : es.length ≤ 100000) (hvl : b.vs.length ≤ 12) (hcm : 1 ≤ ((za b.vs (es.map EntD.toEntA)).vs ++ (za b.vs (es.map EntD.toEntA)).ls).length ∧ ((za b.vs (es.map EntD.toEntA)).vs ++ (za b.vs (es.map EntD.toEntA)).ls).length ≤ 12) (htm : (r.role = 3 → 1 ≤ t.term) ∧ t.term ≤ 4611686018427387904) (hen : (LG 0 0 es).end_ ≤ t.term) (hn : 0 ≤ t.now ∧ t.now ≤ 1000000000000000) (hh : 0 ≤ t.heard ∧ t.heard ≤ 1000000000000000) (ho : o.msgs.length ≤ 1000) (hrd : o.rdys.length ≤ 1000) (ha : a.ok) (hd : draw < 18446744073709551616) (hm : m.wf) (hro : r.role = 4 ↔ y.isSome = true) (hld : ∀ q, y = some q → q.2.bd) (hy : yes.length ≤ 1000) (hk : m.kind = 3) (hin : Own w S [ze cb t (yf y) a r b yv jb draw (pt ob), Res.nl b lv es, Res.lo y, vI yv yes, Res.ou ob o] w) (rd_m : MsgD.rd m w S) : Rets Tryz.prog 87 #[pt cb, .agg (MsgD.cells m).toArray] w fun u_ w' => ∃ (n : NdD) (o' : OutD) (x : OutA), u_ = .tuple #[] ∧ (n.a, x) = yX a b.vs draw m.a { t := t, r := r, E := es.map EntD.toEntA, ld := y.map fun q => q.2.er, yes := yes } ∧ o'.msgs.map MsgD.a = o.msgs.map MsgD.a ++ x.ms ∧ o'.rdys = o.rdys ++ x.rdys ∧ o'.losts = o.losts ∧ Own w S [ze cb n.t (yf n.y) a n.r b n.yv jb draw (pt ob), Res.nl b n.lv n.es, Res.lo n.y, vI n.yv n.yes, Res.ou ob o'] w' := by
  have hme := hm.ents
  have hw1 := kL (draw := draw) ha
  refine zT Tryz.func87 rfl Tryz.ntmps87 hin ?_
  refine zB (z7 rfl rfl (fun b3 => zA (zB (zJ (o := 0) rfl rfl (zM 5 (v := Vi m.kind) rfl rfl rfl rfl (zA (zc (zB (yZ rfl rfl rfl (zK rfl (zA (kc rfl hk ?_))))))))))))
  refine xD (fun (ys : Bool) => [(0, pt cb), (3, pt b3), (4, .bool ys)]) (fun (ys : Bool) => ys = true ↔ zDj a m.a { t := t, r := r, E := es.map EntD.toEntA, ld := y.map fun q => q.2.er, yes := yes }) (fun (ys : Bool) => [ze cb t (yf y) a r b yv jb draw (pt ob), Res.nl b lv es, Res.lo y, vI yv yes, Res.ou ob o, Res.row b3 59 (MsgD.cells m)]) ?_ (fun ys g hΦ => ?_)
  ·
   refine zk [0, 1, 2, 3, 4, 5] rfl (by decide) (by kernel_rfl) (fun w' hw hS => zC 0 rfl (zU) hS (zC 1 rfl (zP rfl) hS (zC 2 rfl (zI (o := 0) rfl) hS (zC 3 rfl (zI (o := 1) rfl) hS (zC 4 rfl (zb 0 (v := Vi t.vote) rfl rfl rfl) hS (zC 5 rfl (zAw rfl rfl) hS (zC 6 rfl (zU) hS ?_)))))))
   by_cases g3_6 : t.vote = 0
   ·
    refine zS 7 rfl rfl (gT g3_6) rfl hS (zS 8 rfl rfl (gT g3_6) rfl hS (zS 9 rfl rfl (gT g3_6) rfl hS (zS 10 rfl rfl (gT g3_6) rfl hS (zS 11 rfl rfl (gT g3_6) rfl hS (zS 12 rfl rfl (gT g3_6) rfl hS (zS 13 rfl rfl (gT g3_6) rfl hS (zS 14 rfl rfl (gT g3_6) rfl hS (zC 15 rfl (yb (gT g3_6)) hS (zC 16 rfl (zU) hS (zZ 17 rfl rfl rfl (zU) hS (zZ 18 rfl rfl rfl (zP rfl) hS (zZ 19 rfl rfl rfl (zI (o := 21) rfl) hS ?_))))))))))))
    refine zZ 20 rfl rfl rfl (zb 0 (v := Vi r.role) rfl rfl rfl) hS (zZ 21 rfl rfl rfl (zFv rfl rfl) hS (zC 22 rfl (yb rfl) hS (zC 23 rfl (zU) hS ?_)))
    by_cases g3_23 : r.role ≠ 4
    ·
     refine zZ 24 rfl rfl (gT g3_23) (zU) hS (zZ 25 rfl rfl (gT g3_23) (zP rfl) hS (zZ 26 rfl rfl (gT g3_23) (zI (o := 29) rfl) hS (zZ 27 rfl rfl (gT g3_23) (zb 0 (v := pt b.lb) rfl rfl rfl) hS (zZ 28 rfl rfl (gT g3_23) (zI (o := 4) rfl) hS (zZ 29 rfl rfl (gT g3_23) (zb 5 (v := Vn m.index) rfl rfl rfl) hS (zZ 30 rfl rfl (gT g3_23) (zI (o := 5) rfl) hS (zZ 31 rfl rfl (gT g3_23) (zb 5 (v := Vn m.logTerm) rfl rfl rfl) hS (zN 32 rfl hw (zO rfl (gT g3_23) (zH rfl rfl (fun w' hw => (zCU b.lb 0 0 lv es m.index m.logTerm w' (by first | assumption | omega | (simp <;> omega) | (constructor <;> (first | omega | (simp only [zd]; omega) | (simp <;> omega)))) (by first | omega | (simp <;> omega)) (hw.part0 1 0 rfl rfl) (hw.partSl0 1 1 rfl rfl) (EntD.rd.part0 1 2 rfl rfl hw)).mono ?_)))))))))))
     rintro _ w1 ⟨rfl, hO⟩
     refine (?_ : CL _ _ _ _ _ _ (Own w S [ze cb t (yf y) a r b yv jb draw (pt ob), Res.nl b lv es, Res.lo y, vI yv yes, Res.ou ob o, Res.row b3 59 (MsgD.cells m)])) w1 (hw.frame0 hO)
     refine zE [0, 1, 2, 3, 4, 5] rfl (by decide) (fun w' hw hS => zC 33 rfl (yb (gT g3_23)) hS (zC 34 rfl (zU) hS ?_))
     by_cases g3_34 : (LG 0 0 es).fresh m.index m.logTerm
     ·
      refine zZ 35 rfl rfl (gT g3_34) (zI (o := 8) rfl) hS (zZ 36 rfl rfl (gT g3_34) (zb 5 (v := .bool m.flag) rfl rfl rfl) hS (zZ 37 rfl rfl (gT g3_34) (zU) hS ?_))
      by_cases g3_37 : m.flag = true
      ·
       refine zS 38 rfl rfl (bT g3_37) rfl hS (zS 39 rfl rfl (bT g3_37) rfl hS (zS 40 rfl rfl (bT g3_37) rfl hS (zZ 41 rfl rfl (gT g3_34) (yb (bT g3_37)) hS (zC 42 rfl (yb (gT g3_34)) hS (zC 43 rfl (ya) hS (zX ?_))))))
       exact ⟨true, ⟨rfl, rfl, rfl, trivial⟩, ⟨fun _ => ⟨.inl g3_6, g3_23, g3_34, .inl g3_37⟩, fun _ => rfl⟩, hw⟩
      ·
       refine zZ 38 rfl rfl (bF g3_37) (zU) hS (zN 39 rfl hw (zO rfl (bF g3_37) (zH rfl rfl (fun w' hw => (zAL cb jb t a r b (yf y) yv (pt ob) draw w' (by first | omega | (simp <;> omega)) (by first | omega | (simp <;> omega)) (hw.give [0] rfl (by decide))).mono ?_))))
       rintro _ w1 ⟨rfl, hO⟩
       refine (?_ : CL _ _ _ _ _ _ (Own w S [Res.nl b lv es, Res.lo y, vI yv yes, Res.ou ob o, Res.row b3 59 (MsgD.cells m), ze cb t (yf y) a r b yv jb draw (pt ob)])) w1 (hw.frameL [0] rfl hO)
       refine zE [5, 0, 1, 2, 3, 4] rfl (by decide) (fun w' hw hS => zZ 40 rfl rfl (bF g3_37) (xX (q := t.now - t.heard < a.base) rfl) hS (zZ 41 rfl rfl (gT g3_34) (yG (bF g3_37)) hS (zC 42 rfl (yb (gT g3_34)) hS (zC 43 rfl (ya) hS (zX ?_)))))
       exact ⟨decide (¬ (t.now - t.heard < a.base)), ⟨rfl, rfl, rfl, trivial⟩, ⟨fun h => ⟨.inl g3_6, g3_23, g3_34, .inr (of_decide_eq_true h)⟩, fun h => decide_eq_true (h.2.2.2.resolve_left g3_37)⟩, hw.sel [5, 0, 1, 2, 3, 4] rfl (by decide)⟩
     ·
      refine zS 35 rfl rfl (gF g3_34) rfl hS (zS 36 rfl rfl (gF g3_34) rfl hS (zS 37 rfl rfl (gF g3_34) rfl hS (yn 38 rfl rfl rfl hS (yn 39 rfl rfl rfl hS (yn 40 rfl rfl rfl hS (zS 41 rfl rfl (gF g3_34) rfl hS (zC 42 rfl (yG (gF g3_34)) hS (zC 43 rfl (ya) hS (zX ?_)))))))))
      exact ⟨false, ⟨rfl, rfl, rfl, trivial⟩, ⟨fun h => absurd h (by decide), fun h => absurd h.2.2.1 g3_34⟩, hw⟩
    ·
     refine zS 24 rfl rfl (gF g3_23) rfl hS (zS 25 rfl rfl (gF g3_23) rfl hS (zS 26 rfl rfl (gF g3_23) rfl hS (zS 27 rfl rfl (gF g3_23) rfl hS (zS 28 rfl rfl (gF g3_23) rfl hS (zS 29 rfl rfl (gF g3_23) rfl hS (zS 30 rfl rfl (gF g3_23) rfl hS (zS 31 rfl rfl (gF g3_23) rfl hS (zS 32 rfl rfl (gF g3_23) rfl hS (zC 33 rfl (yG (gF g3_23)) hS (zC 34 rfl (zU) hS (zS 35 rfl rfl rfl rfl hS (zS 36 rfl rfl rfl rfl hS ?_))))))))))))
     refine zS 37 rfl rfl rfl rfl hS (yn 38 rfl rfl rfl hS (yn 39 rfl rfl rfl hS (yn 40 rfl rfl rfl hS (zS 41 rfl rfl rfl rfl hS (zC 42 rfl (yG rfl) hS (zC 43 rfl (ya) hS (zX ?_)))))))
     exact ⟨false, ⟨rfl, rfl, rfl, trivial⟩, ⟨fun h => absurd h (by decide), fun h => absurd h.2.1 g3_23⟩, hw⟩
   ·
    refine zZ 7 rfl rfl (gF g3_6) (zU) hS (zZ 8 rfl rfl (gF g3_6) (zP rfl) hS (zZ 9 rfl rfl (gF g3_6) (zI (o := 0) rfl) hS (zZ 10 rfl rfl (gF g3_6) (zI (o := 1) rfl) hS (zZ 11 rfl rfl (gF g3_6) (zb 0 (v := Vi t.vote) rfl rfl rfl) hS (zZ 12 rfl rfl (gF g3_6) (zI (o := 1) rfl) hS (zZ 13 rfl rfl (gF g3_6) (zb 5 (v := Vi m.src) rfl rfl rfl) hS (zZ 14 rfl rfl (gF g3_6) (zAw rfl rfl) hS (zC 15 rfl (yG (gF g3_6)) hS (zC 16 rfl (zU) hS ?_)))))))))
    by_cases g3_16 : t.vote = m.src
    ·
     refine zZ 17 rfl rfl (gT g3_16) (zU) hS (zZ 18 rfl rfl (gT g3_16) (zP rfl) hS (zZ 19 rfl rfl (gT g3_16) (zI (o := 21) rfl) hS (zZ 20 rfl rfl (gT g3_16) (zb 0 (v := Vi r.role) rfl rfl rfl) hS (zZ 21 rfl rfl (gT g3_16) (zFv rfl rfl) hS (zC 22 rfl (yb (gT g3_16)) hS (zC 23 rfl (zU) hS ?_))))))
     by_cases g3_23 : r.role ≠ 4
     ·
      refine zZ 24 rfl rfl (gT g3_23) (zU) hS (zZ 25 rfl rfl (gT g3_23) (zP rfl) hS (zZ 26 rfl rfl (gT g3_23) (zI (o := 29) rfl) hS (zZ 27 rfl rfl (gT g3_23) (zb 0 (v := pt b.lb) rfl rfl rfl) hS (zZ 28 rfl rfl (gT g3_23) (zI (o := 4) rfl) hS (zZ 29 rfl rfl (gT g3_23) (zb 5 (v := Vn m.index) rfl rfl rfl) hS (zZ 30 rfl rfl (gT g3_23) (zI (o := 5) rfl) hS (zZ 31 rfl rfl (gT g3_23) (zb 5 (v := Vn m.logTerm) rfl rfl rfl) hS (zN 32 rfl hw (zO rfl (gT g3_23) (zH rfl rfl (fun w' hw => (zCU b.lb 0 0 lv es m.index m.logTerm w' (by first | assumption | omega | (simp <;> omega) | (constructor <;> (first | omega | (simp only [zd]; omega) | (simp <;> omega)))) (by first | omega | (simp <;> omega)) (hw.part0 1 0 rfl rfl) (hw.partSl0 1 1 rfl rfl) (EntD.rd.part0 1 2 rfl rfl hw)).mono ?_)))))))))))
      rintro _ w1 ⟨rfl, hO⟩
      refine (?_ : CL _ _ _ _ _ _ (Own w S [ze cb t (yf y) a r b yv jb draw (pt ob), Res.nl b lv es, Res.lo y, vI yv yes, Res.ou ob o, Res.row b3 59 (MsgD.cells m)])) w1 (hw.frame0 hO)
      refine zE [0, 1, 2, 3, 4, 5] rfl (by decide) (fun w' hw hS => zC 33 rfl (yb (gT g3_23)) hS (zC 34 rfl (zU) hS ?_))
      by_cases g3_34 : (LG 0 0 es).fresh m.index m.logTerm
      ·
       refine zZ 35 rfl rfl (gT g3_34) (zI (o := 8) rfl) hS (zZ 36 rfl rfl (gT g3_34) (zb 5 (v := .bool m.flag) rfl rfl rfl) hS (zZ 37 rfl rfl (gT g3_34) (zU) hS ?_))
       by_cases g3_37 : m.flag = true
       ·
        refine zS 38 rfl rfl (bT g3_37) rfl hS (zS 39 rfl rfl (bT g3_37) rfl hS (zS 40 rfl rfl (bT g3_37) rfl hS (zZ 41 rfl rfl (gT g3_34) (yb (bT g3_37)) hS (zC 42 rfl (yb (gT g3_34)) hS (zC 43 rfl (ya) hS (zX ?_))))))
        exact ⟨true, ⟨rfl, rfl, rfl, trivial⟩, ⟨fun _ => ⟨.inr g3_16, g3_23, g3_34, .inl g3_37⟩, fun _ => rfl⟩, hw⟩
       ·
        refine zZ 38 rfl rfl (bF g3_37) (zU) hS (zN 39 rfl hw (zO rfl (bF g3_37) (zH rfl rfl (fun w' hw => (zAL cb jb t a r b (yf y) yv (pt ob) draw w' (by first | omega | (simp <;> omega)) (by first | omega | (simp <;> omega)) (hw.give [0] rfl (by decide))).mono ?_))))
        rintro _ w1 ⟨rfl, hO⟩
        refine (?_ : CL _ _ _ _ _ _ (Own w S [Res.nl b lv es, Res.lo y, vI yv yes, Res.ou ob o, Res.row b3 59 (MsgD.cells m), ze cb t (yf y) a r b yv jb draw (pt ob)])) w1 (hw.frameL [0] rfl hO)
        refine zE [5, 0, 1, 2, 3, 4] rfl (by decide) (fun w' hw hS => zZ 40 rfl rfl (bF g3_37) (xX (q := t.now - t.heard < a.base) rfl) hS (zZ 41 rfl rfl (gT g3_34) (yG (bF g3_37)) hS (zC 42 rfl (yb (gT g3_34)) hS (zC 43 rfl (ya) hS (zX ?_)))))
        exact ⟨decide (¬ (t.now - t.heard < a.base)), ⟨rfl, rfl, rfl, trivial⟩, ⟨fun h => ⟨.inr g3_16, g3_23, g3_34, .inr (of_decide_eq_true h)⟩, fun h => decide_eq_true (h.2.2.2.resolve_left g3_37)⟩, hw.sel [5, 0, 1, 2, 3, 4] rfl (by decide)⟩
      ·
       refine zS 35 rfl rfl (gF g3_34) rfl hS (zS 36 rfl rfl (gF g3_34) rfl hS (zS 37 rfl rfl (gF g3_34) rfl hS (yn 38 rfl rfl rfl hS (yn 39 rfl rfl rfl hS (yn 40 rfl rfl rfl hS (zS 41 rfl rfl (gF g3_34) rfl hS (zC 42 rfl (yG (gF g3_34)) hS (zC 43 rfl (ya) hS (zX ?_)))))))))
       exact ⟨false, ⟨rfl, rfl, rfl, trivial⟩, ⟨fun h => absurd h (by decide), fun h => absurd h.2.2.1 g3_34⟩, hw⟩
     ·
      refine zS 24 rfl rfl (gF g3_23) rfl hS (zS 25 rfl rfl (gF g3_23) rfl hS (zS 26 rfl rfl (gF g3_23) rfl hS (zS 27 rfl rfl (gF g3_23) rfl hS (zS 28 rfl rfl (gF g3_23) rfl hS (zS 29 rfl rfl (gF g3_23) rfl hS (zS 30 rfl rfl (gF g3_23) rfl hS (zS 31 rfl rfl (gF g3_23) rfl hS (zS 32 rfl rfl (gF g3_23) rfl hS (zC 33 rfl (yG (gF g3_23)) hS (zC 34 rfl (zU) hS (zS 35 rfl rfl rfl rfl hS (zS 36 rfl rfl rfl rfl hS ?_))))))))))))
      refine zS 37 rfl rfl rfl rfl hS (yn 38 rfl rfl rfl hS (yn 39 rfl rfl rfl hS (yn 40 rfl rfl rfl hS (zS 41 rfl rfl rfl rfl hS (zC 42 rfl (yG rfl) hS (zC 43 rfl (ya) hS (zX ?_)))))))
      exact ⟨false, ⟨rfl, rfl, rfl, trivial⟩, ⟨fun h => absurd h (by decide), fun h => absurd h.2.1 g3_23⟩, hw⟩
    ·
     refine zS 17 rfl rfl (gF g3_16) rfl hS (zS 18 rfl rfl (gF g3_16) rfl hS (zS 19 rfl rfl (gF g3_16) rfl hS (zS 20 rfl rfl (gF g3_16) rfl hS (zS 21 rfl rfl (gF g3_16) rfl hS (zC 22 rfl (yG (gF g3_16)) hS (zC 23 rfl (zU) hS (zS 24 rfl rfl rfl rfl hS (zS 25 rfl rfl rfl rfl hS (zS 26 rfl rfl rfl rfl hS (zS 27 rfl rfl rfl rfl hS (zS 28 rfl rfl rfl rfl hS (zS 29 rfl rfl rfl rfl hS ?_))))))))))))
     refine zS 30 rfl rfl rfl rfl hS (zS 31 rfl rfl rfl rfl hS (zS 32 rfl rfl rfl rfl hS (zC 33 rfl (yG rfl) hS (zC 34 rfl (zU) hS (zS 35 rfl rfl rfl rfl hS (zS 36 rfl rfl rfl rfl hS (zS 37 rfl rfl rfl rfl hS (yn 38 rfl rfl rfl hS (yn 39 rfl rfl rfl hS (yn 40 rfl rfl rfl hS (zS 41 rfl rfl rfl rfl hS (zC 42 rfl (yG rfl) hS ?_))))))))))))
     refine zC 43 rfl (ya) hS (zX ?_)
     exact ⟨false, ⟨rfl, rfl, rfl, trivial⟩, ⟨fun h => absurd h (by decide), fun h => (h.1.elim g3_6 g3_16).elim⟩, hw⟩
  have hys : ys = decide (zDj a m.a _) := zDe hΦ
  refine xD (fun (t' : TimD) => [(0, pt cb), (3, pt b3), (4, .bool ys)]) (fun (t' : TimD) => t' = if ys = true then ({ t with vote := m.src, due := t.now + yl a draw } : TimD) else t) (fun (t' : TimD) => [ze cb t' (yf y) a r b yv jb draw (pt ob), Res.nl b lv es, Res.lo y, vI yv yes, Res.ou ob o, Res.row b3 59 (MsgD.cells m)]) ?_ (fun t' g hΦ => ?_)
  ·
   refine zB (zD rfl (zA (ja rfl (fun c2 => ?_) (fun c2 => ?_))))
   ·
    refine zB (zD rfl (zJ (o := 1) rfl rfl (zM 5 (v := Vi m.src) rfl rfl rfl rfl (zh rfl rfl (zJ (o := 0) rfl rfl (zJ (o := 1) rfl rfl (zo 0 rfl rfl rfl rfl rfl (zA (zk [1, 2, 3, 4, 5] rfl (by decide) (by kernel_rfl) (fun w' hw hS => zC 0 rfl (zU) hS (zC 1 rfl (zU) hS (zC 2 rfl (zP rfl) hS ?_))))))))))))
    refine zC 3 rfl (zI (o := 2) rfl) hS (zC 4 rfl (zI (o := 0) rfl) hS (zC 6 rfl (zU) hS (yA 5 7 ?_ ?_)))
    ·
     refine zr 5 rfl hw (zM 0 (v := Vi t.now) rfl rfl rfl rfl (zE [1, 2, 3, 4, 5] rfl (by decide) (fun w' hw hS => zN 7 rfl hw (zH rfl rfl (fun w' hw => (x9 cb jb ({ t with vote := m.src } : TimD) a r b (yf y) yv (pt ob) draw w' ‹_› (by first | omega | (simp <;> omega)) (hw.give [0] rfl (by decide))).mono ?_)))))
     rintro _ w1 ⟨rfl, hO⟩
     refine (?_ : CL _ _ _ _ _ _ (Own w S [Res.nl b lv es, Res.lo y, vI yv yes, Res.ou ob o, Res.row b3 59 (MsgD.cells m), ze cb ({ t with vote := m.src } : TimD) (yf y) a r b yv jb draw (pt ob)])) w1 (hw.frameL [0] rfl hO)
     refine zE [0, 1, 2, 3, 4] rfl (by decide) (fun w' hw hS => zC 8 rfl (yw rfl rfl (zy (by omega))) hS (zC 9 rfl (zP rfl) hS (zC 10 rfl (zI (o := 2) rfl) hS (zC 11 rfl (zI (o := 2) rfl) hS (zN 12 rfl hw (zo 5 rfl rfl rfl rfl rfl (zE [0, 1, 2, 3, 4] rfl (by decide) (fun w' hw hS => zX ?_))))))))
     exact ⟨({ t with vote := m.src, due := t.now + yl a draw } : TimD), ⟨rfl, rfl, rfl, trivial⟩, (if_pos c2).symm, hw.sel [5, 0, 1, 2, 3, 4] rfl (by decide)⟩
    ·
     refine zr 7 rfl hw (zH rfl rfl (fun w' hw => (x9 cb jb ({ t with vote := m.src } : TimD) a r b (yf y) yv (pt ob) draw w' ‹_› (by first | omega | (simp <;> omega)) (hw.give [0] rfl (by decide))).mono ?_))
     rintro _ w1 ⟨rfl, hO⟩
     refine (?_ : CL _ _ _ _ _ _ (Own w S [Res.nl b lv es, Res.lo y, vI yv yes, Res.ou ob o, Res.row b3 59 (MsgD.cells m), ze cb ({ t with vote := m.src } : TimD) (yf y) a r b yv jb draw (pt ob)])) w1 (hw.frameL [0] rfl hO)
     refine zE [0, 1, 2, 3, 4] rfl (by decide) (fun w' hw hS => zN 5 rfl hw (zM 5 (v := Vi t.now) rfl rfl rfl rfl (zE [0, 1, 2, 3, 4] rfl (by decide) (fun w' hw hS => zC 8 rfl (yw rfl rfl (zy (by omega))) hS (zC 9 rfl (zP rfl) hS (zC 10 rfl (zI (o := 2) rfl) hS (zC 11 rfl (zI (o := 2) rfl) hS (zN 12 rfl hw (zo 5 rfl rfl rfl rfl rfl (zE [0, 1, 2, 3, 4] rfl (by decide) (fun w' hw hS => zX ?_)))))))))))
     exact ⟨({ t with vote := m.src, due := t.now + yl a draw } : TimD), ⟨rfl, rfl, rfl, trivial⟩, (if_pos c2).symm, hw.sel [5, 0, 1, 2, 3, 4] rfl (by decide)⟩
   ·
    exact yk (fun w' hw => ⟨t, ⟨rfl, rfl, rfl, trivial⟩, (if_neg (by rw [c2]; decide)).symm, hw⟩)
  have ht' := hΦ
  have htt : t'.term = t.term := by rw [ht']; split <;> rfl
  refine zW (zD rfl (zJ (o := 1) rfl rfl (zM 5 (v := Vi m.src) rfl rfl rfl rfl (zD rfl (yc (cs := [Vi 4, Vi 0, Vi m.src, Vn 0, Vn 0, Vn 0, Vn 0, Vn 0, .bool ys, .slice none 0 0, .slice none 0 0, .slice none 0 0, Vi 0, .slice none 0 0]) (z := [Vi 0, Vi 0, Vi 0, Vn 0, Vn 0, Vn 0, Vn 0, Vn 0, .bool false, .slice none 0 0, .slice none 0 0, .slice none 0 0, Vi 0, .slice none 0 0]) (pl := [(0, 1), (1, 1), (2, 1), (3, 1), (4, 1), (5, 1), (6, 1), (7, 1), (8, 1), (9, 1), (10, 2), (12, 1), (13, 1)]) (by kernel_rfl) (by kernel_rfl) rfl (z4 (e := 59) (sz := 14) (vs := [.agg #[Vi 4, Vi 0, Vi m.src, Vn 0, Vn 0, Vn 0, Vn 0, Vn 0, .bool ys, .slice none 0 0, .slice none 0 0, .slice none 0 0, Vi 0, .slice none 0 0]]) (by kernel_rfl) rfl rfl (by simp [Value.cells, MsgD.cells, ConfD.cells]) (by decide) rfl (fun b77 => ?_)))))))
  refine zx [ze cb t' (yf y) a r b yv jb draw (pt ob), Res.nl b lv es, Res.lo y, vI yv yes, Res.ou ob o, Res.row b3 59 (MsgD.cells m), vM (.slice (some ⟨b77, 0, none⟩) 1 1) [(yP 4 0 m.src 0 0 0 0 0 ys (.slice none 0 0) [])], sM [(yP 4 0 m.src 0 0 0 0 0 ys (.slice none 0 0) [])]] (fun w' hw => hw.msg0 ⟨rfl, rfl, rfl⟩ rfl rfl) ?_
  refine zH rfl rfl (fun w' hw => (kP cb jb t' a r b (yf y) yv draw ob _ (.slice (some ⟨b77, 0, none⟩) 1 1) [(yP 4 0 m.src 0 0 0 0 0 ys (.slice none 0 0) [])] w' (by first | omega | (simp <;> omega) | (constructor <;> (first | omega | (simp <;> omega)))) (hw.give [0, 4, 6, 7] rfl (by decide))).mono ?_)
  rintro _ w1 ⟨mv'1_, rfl, hO⟩
  refine (?_ : CL _ _ _ _ _ _ (Own w S [Res.nl b lv es, Res.lo y, vI yv yes, Res.row b3 59 (MsgD.cells m), ze cb t' (yf y) a r b yv jb draw (pt ob), Res.ou ob ({ o with mv := mv'1_, msgs := o.msgs ++ [(yP 4 0 m.src 0 0 0 0 0 ys (.slice none 0 0) [])].map (z8 a t'.term) } : OutD)])) w1 (hw.frameL [0, 4, 6, 7] rfl hO)
  exact zj (yM rfl (fun w' hw => ⟨({ t := t', r := r, lv := lv, es := es, y := y, yv := yv, yes := yes } : NdD), ({ o with mv := mv'1_, msgs := o.msgs ++ [z8 a t'.term (yP 4 0 m.src 0 0 0 0 0 ys (.slice none 0 0) [])] } : OutD), ⟨[one a 4 m.src t.term ys], [], []⟩, rfl, (by unfold yX; dsimp only; rw [if_pos (show m.a.kind = 3 from hk), ← hys, ht']; by_cases q : ys = true; (rw [if_pos q, if_pos (of_decide_eq_true (hys.symm.trans q))]; rfl); (rw [if_neg q, if_neg (fun v => q (hys.trans (decide_eq_true v)))]; rfl)), (by rw [List.map_append, zBc (show (4 : Int) ≠ 1 ∧ (4 : Int) ≠ 2 by decide), htt]; rfl), (List.append_nil _).symm, rfl, hw.sel [4, 0, 1, 2, 5] rfl (by decide)⟩))
end Go.Proofs.YtkkeknmkipkbmaaGreat
