import Derived.Test.YtkkeknmkipkbmaaGreatCoL
set_option linter.unusedSectionVars false
set_option linter.unusedSimpArgs false
set_option linter.unusedVariables false
set_option maxRecDepth 10000
namespace Go.Proofs.YtkkeknmkipkbmaaGreat
open Go Go.Sc Go.Proofs
def yf : Option (Nat × LdD) → Value
  | none => .pointer none
  | some q => pt q.1
def Res.lo : Option (Nat × LdD) → Res
  | none => Res.star []
  | some q => Res.ld q.1 q.2
def er (ps : List PeerP) : List PeerP := ps.map fun q => (0, q.2)
def LdD.er (l : LdD) : LdD := { pv := .slice none 0 0, peers := YtkkeknmkipkbmaaGreat.er l.peers, av := .slice none 0 0, answered := l.answered, rv := .slice none 0 0, rounds := l.rounds, sure := l.sure, kv := .slice none 0 0, looks := l.looks, give := l.give, given := l.given }
structure NodA where
  t : TimD
  r : RolD
  E : List EntA
  ld : Option LdD
  yes : List Int
structure NdD where
  t : TimD
  r : RolD
  lv : Value
  es : List EntD
  y : Option (Nat × LdD)
  yv : Value
  yes : List Int
def NdD.a (n : NdD) : NodA := { t := n.t, r := n.r, E := n.es.map EntD.toEntA, ld := n.y.map fun q => q.2.er, yes := n.yes }
theorem zCa {ps : List PeerP} {k : Nat} : (zG (er ps) k).2 = (zG ps k).2 := by
  unfold er zG
  rw [List.getElem?_map]
  cases ps[k]? <;> rfl
theorem peerIx_er {ps : List PeerP} {id : Int} : xI (er ps) id = xI ps id := by
  unfold xI er
  rw [List.findIdx?_map]; rfl
theorem zBE {id : Int} {vs : List Int} {ps : List PeerP} {self : Nat} {of : PeerM → Nat} : zn id vs (er ps) self of = zn id vs ps self of := by
  unfold zn
  refine List.map_congr_left fun v _ => ?_
  unfold ky
  rw [peerIx_er]
  split
  · rfl
  · cases xI ps v with
    | none => rfl
    | some k => show of (zG (er ps) k).2 = _; rw [zCa]
theorem zCE {a : StA} {term : Nat} {vs0 : List Int} {E : List EntA} {ps : List PeerP} {commit : Nat} : yt a term vs0 E (er ps) commit = yt a term vs0 E ps commit := by unfold yt; rw [zBE]
theorem zGh {a : StA} {vs0 : List Int} {E : List EntA} {ps : List PeerP} {rounds : List Int} {sure : Nat} : y7 a vs0 E (er ps) rounds sure = y7 a vs0 E ps rounds sure := by unfold y7; rw [zBE]
theorem zEh {g : PeerM → List MsgA} {ps : List PeerP} : zAH g (er ps) = zAH g ps := by unfold zAH er; rw [List.flatMap_map]
theorem zJd {ps : List PeerP} : (er ps).length = ps.length := List.length_map _
theorem zCu {ps : List PeerP} {k : Nat} {q : PeerM} : er (zi ps k q) = zi (er ps) k q := by
  unfold zi er
  rw [List.map_set]
  congr 1
  have h : ∀ k : Nat, (zG (ps.map fun q => ((0 : Nat), q.2)) k).1 = 0 := fun k => by unfold zG; rw [List.getElem?_map]; cases ps[k]? <;> rfl
  rw [h]
theorem zG3 {ps : List PeerP} {f : PeerM → PeerM} : er (ps.map fun q => (q.1, f q.2)) = (er ps).map fun q => (q.1, f q.2) := by unfold er; simp [List.map_map, Function.comp]
theorem zKr {ps : List PeerP} {l : List PeerM} (h : ps.map Prod.snd = l) : er ps = l.map fun p => (0, p) := by rw [← h]; unfold er; rw [List.map_map]; rfl
def zJX (l : List Int) : List Int := l.mergeSort fun x y => decide (x ≤ y)
theorem zCY {l l' : List Int} (h : l'.Perm l) (h2 : l'.Pairwise (fun x y => kS x y)) : l' = zJX l := by
  have h3 : (zJX l).Pairwise (fun a b => decide (a ≤ b) = true) := List.pairwise_mergeSort (by intro a b c; simp; omega) (by intro a b; simp; omega) _
  refine List.Perm.eq_of_pairwise (le := fun a b => decide (a ≤ b) = true) (fun a b _ _ p q => by simp at p q; omega) (h2.imp fun q => by simpa using ole_int.1 q) h3 (h.trans (List.mergeSort_perm _ _).symm)
def followF (wh : Int) (n : NodA) : NodA := { n with r := ⟨1, wh, n.r.commit⟩, ld := none, yes := [] }
def xt (x : Option LdD) : List Nat := match x with
  | none => []
  | some l => l.looks.map LookM.id
def zAJ (a : StA) (vs0 : List Int) (E : List EntA) : List PeerP := ((zJX ((za vs0 E).vs ++ (za vs0 E).ls)).filter (· ≠ a.id)).map fun i => (0, xJ E.length i)
def kZ (a : StA) (vs0 : List Int) (n : NodA) : NodA × List MsgA :=
  let E := n.E ++ [jc n.E.length n.t.term]
  let c := yt a n.t.term vs0 E (zAJ a vs0 n.E) n.r.commit
  ({ t := { n.t with stamp := n.t.now, checked := n.t.now, beaten := n.t.now }, r := ⟨4, a.id, c⟩, E := E, ld := some { pv := .slice none 0 0, peers := (zAJ a vs0 n.E).map (fun q => (q.1, z5 E q.2)), av := .slice none 0 0, answered := [], rv := .slice none 0 0, rounds := [n.t.now], sure := if (za vs0 E).quorum [a.id] then 1 else 0, kv := .slice none 0 0, looks := [], give := 0, given := false }, yes := [] }, zAH (ju a n.t.term c 1 E) (zAJ a vs0 n.E))
def zA3 (a : StA) (term : Nat) (vs : List Int) (kind : Int) (tm : Nat) (flag : Bool) (E : List EntA) : List MsgA := (yq a term vs kind tm flag E.length (LogA.mk 0 0 E).end_).map MsgD.a
def zAY (a : StA) (vs0 : List Int) (draw : Nat) (force : Bool) (n : NodA) : NodA × List MsgA :=
  let n1 : NodA := { n with t := { n.t with term := n.t.term + 1, vote := a.id, due := n.t.now + yl a draw }, r := ⟨3, 0, n.r.commit⟩, ld := none, yes := [a.id] }
  if (za vs0 n.E).quorum [a.id] then kZ a vs0 n1 else (n1, zA3 a (n.t.term + 1) (za vs0 n.E).vs 3 0 force n.E)
def zHw (a : StA) (vs0 : List Int) (draw : Nat) (n : NodA) : NodA × List MsgA :=
  let n1 : NodA := { n with r := ⟨2, 0, n.r.commit⟩, ld := none, yes := [a.id] }
  if (za vs0 n.E).quorum [a.id] then zAY a vs0 draw false n1 else (n1, zA3 a n.t.term (za vs0 n.E).vs 1 (n.t.term + 1) false n.E)
theorem zFE (cb jb : Nat) (t : TimD) (a : StA) (r : RolD) (b : StB) (yv : Value) (draw ob : Nat) (o : OutD) (y : Option (Nat × LdD)) (wh : Int) (w : World) (hl : ∀ q, y = some q → q.2.looks.length ≤ 1000000) (ho : o.losts.length = 0) (hin : Own w (y8 [ze cb t (yf y) a r b yv jb draw (pt ob), Res.lo y, Res.ou ob o]) [ze cb t (yf y) a r b yv jb draw (pt ob), Res.lo y, Res.ou ob o] w) : Rets Tryz.prog 70 #[pt cb, Vi wh] w fun u_ w' => ∃ (xw : Value), u_ = .tuple #[] ∧ Own w (y8 [ze cb t (yf y) a r b yv jb draw (pt ob), Res.lo y, Res.ou ob o]) [ze cb t (.pointer none) a ({ role := 1, who := wh, commit := r.commit } : RolD) b (.slice none 0 0) jb draw (pt ob), Res.ou ob ({ o with xv := xw, losts := xt (y.map Prod.snd) } : OutD)] w' := by
  cases y with
  | none =>
    refine (x2 cb jb t a r b yv (pt ob) draw wh w (hin.give [0] rfl (by decide))).mono ?_
    rintro _ w1 ⟨rfl, hO⟩
    refine ⟨o.xv, rfl, ?_⟩
    rw [show xt ((none : Option (Nat × LdD)).map Prod.snd) = o.losts from (List.eq_nil_of_length_eq_zero ho).symm]
    exact (hin.frameL [0] rfl hO).sel [2, 1] rfl (by decide)
  | some q => exact jz cb jb t a r b yv draw wh q.1 q.2 ob o w (hl q rfl) ho hin
theorem zDh (cb jb : Nat) (t : TimD) (a : StA) (r : RolD) (b : StB) (yv : Value) (draw : Nat) (lv : Value) (es : List EntD) (ob : Nat) (o : OutD) (yes : List Int) (w : World) (hg : (LG 0 0 es).good) (hl : es.length ≤ 100000) (hvl : b.vs.length ≤ 12) (hcm : 1 ≤ ((za b.vs (es.map EntD.toEntA)).vs ++ (za b.vs (es.map EntD.toEntA)).ls).length ∧ ((za b.vs (es.map EntD.toEntA)).vs ++ (za b.vs (es.map EntD.toEntA)).ls).length ≤ 12) (htm : 1 ≤ t.term ∧ t.term ≤ 4611686018427387904) (hen : (LG 0 0 es).end_ ≤ t.term) (hn : 0 ≤ t.now ∧ t.now ≤ 1000000000000000) (ho : o.msgs.length ≤ 1000) (hin : Own w (y8 [ze cb t (.pointer none) a r b yv jb draw (pt ob), Res.nl b lv es, Res.ou ob o]) [ze cb t (.pointer none) a r b yv jb draw (pt ob), Res.nl b lv es, Res.ou ob o] w) : Rets Tryz.prog 119 #[pt cb] w fun u_ w' => ∃ (n : NdD) (mv' : Value) (ms : List MsgD), u_ = .tuple #[] ∧ (n.a, ms.map MsgD.a) = kZ a b.vs { t := t, r := r, E := es.map EntD.toEntA, ld := none, yes := yes } ∧ Own w (y8 [ze cb t (.pointer none) a r b yv jb draw (pt ob), Res.nl b lv es, Res.ou ob o]) [ze cb n.t (yf n.y) a n.r b n.yv jb draw (pt ob), Res.nl b n.lv n.es, Res.lo n.y, vI n.yv n.yes, Res.ou ob ({ o with mv := mv', msgs := o.msgs ++ ms } : OutD)] w' := by
  refine (zGi cb jb t a r b yv draw lv es 0 ob o w hg hl hvl hcm htm hen hn ho hin).mono ?_
  rintro _ w1 ⟨ld, pv, lv', mv', rv', es', ids, ps, ms, rfl, hg', hE, hp, hs, hps, hms, hO⟩
  refine ⟨⟨_, _, lv', es', some (ld, _), _, []⟩, mv', ms, rfl, ?_, (zt hO 3 1).sel [0, 1, 2, 4, 3] rfl (by decide)⟩
  have hid := zCY hp hs
  have her : er ps = zAJ a b.vs (es.map EntD.toEntA) := by rw [zKr hps, hid]; unfold zAJ; rw [List.map_map, List.length_map]; rfl
  unfold kZ NdD.a LdD.er
  dsimp only
  rw [List.length_map, ← hE, ← her, zCE, zEh, ← zG3, hms]; rfl
theorem zCQ {S : List Nat} (cb jb : Nat) (t : TimD) (a : StA) (r : RolD) (b : StB) (yv : Value) (draw : Nat) (lv : Value) (es : List EntD) (ob : Nat) (o : OutD) (force : Bool) (yes : List Int) (w : World) (hg : (LG 0 0 es).good) (hl : es.length ≤ 100000) (hvl : b.vs.length ≤ 12) (hcm : 1 ≤ ((za b.vs (es.map EntD.toEntA)).vs ++ (za b.vs (es.map EntD.toEntA)).ls).length ∧ ((za b.vs (es.map EntD.toEntA)).vs ++ (za b.vs (es.map EntD.toEntA)).ls).length ≤ 12) (htm : t.term < 4611686018427387904) (hen : (LG 0 0 es).end_ ≤ t.term) (hn : 0 ≤ t.now ∧ t.now ≤ 1000000000000000) (ho : o.msgs.length ≤ 1000) (ha : a.ok) (hd : draw < 18446744073709551616) (hin : Own w S [ze cb t (.pointer none) a r b yv jb draw (pt ob), Res.nl b lv es, Res.ou ob o] w) : Rets Tryz.prog 74 #[pt cb, .bool force] w fun u_ w' => ∃ (n : NdD) (mv' : Value) (ms : List MsgD), u_ = .tuple #[] ∧ (n.a, ms.map MsgD.a) = zAY a b.vs draw force { t := t, r := r, E := es.map EntD.toEntA, ld := none, yes := yes } ∧ Own w S [ze cb n.t (yf n.y) a n.r b n.yv jb draw (pt ob), Res.nl b n.lv n.es, Res.lo n.y, vI n.yv n.yes, Res.ou ob ({ o with mv := mv', msgs := o.msgs ++ ms } : OutD)] w' := by
  have hw1 := kL (draw := draw) ha
  refine zT Tryz.func74 rfl Tryz.ntmps74 hin ?_
  refine zAW ([(0, pt cb), (1, .bool force)]) (True) ([ze cb ({ t with term := t.term + 1, vote := a.id } : TimD) (.pointer none) a r b yv jb draw (pt ob), Res.nl b lv es, Res.ou ob o]) ?_ (fun g hΦ => ?_)
  ·
   refine zk [1, 2] rfl (by decide) (by kernel_rfl) (fun w' hw hS => zC 0 rfl (zU) hS (zC 1 rfl (zU) hS (zC 2 rfl (zP rfl) hS (zC 3 rfl (zI (o := 0) rfl) hS (zC 4 rfl (zI (o := 0) rfl) hS (zC 7 rfl (zU) hS (zC 8 rfl (zP rfl) hS (zC 9 rfl (zI (o := 10) rfl) hS (yA 5 10 ?_ ?_)))))))))
   ·
    refine zr 5 rfl hw (zM 0 (v := Vn t.term) rfl rfl rfl rfl (zE [1, 2] rfl (by decide) (fun w' hw hS => zC 6 rfl (yw rfl rfl (y6 (by omega))) hS (zN 10 rfl hw (zM 0 (v := Vi a.id) rfl rfl rfl rfl (zE [1, 2] rfl (by decide) (fun w' hw hS => zC 11 rfl (zAD (cs := [Vn (t.term + 1), Vi a.id]) (z := [Vn 0, Vi 0]) (pl := [(0, 1), (1, 1)]) (by kernel_rfl) (by kernel_rfl)) hS (zC 12 rfl (zP rfl) hS (zC 13 rfl (zI (o := 0) rfl) hS (zN 14 rfl hw (yH 0 rfl rfl rfl (xx rfl) rfl (zE [1, 2] rfl (by decide) (fun w' hw hS => ?_)))))))))))))
    refine zX ?_
    exact ⟨⟨rfl, rfl, trivial⟩, trivial, hw⟩
   ·
    refine zr 10 rfl hw (zM 0 (v := Vi a.id) rfl rfl rfl rfl (zE [1, 2] rfl (by decide) (fun w' hw hS => zN 5 rfl hw (zM 0 (v := Vn t.term) rfl rfl rfl rfl (zE [1, 2] rfl (by decide) (fun w' hw hS => zC 6 rfl (yw rfl rfl (y6 (by omega))) hS (zC 11 rfl (zAD (cs := [Vn (t.term + 1), Vi a.id]) (z := [Vn 0, Vi 0]) (pl := [(0, 1), (1, 1)]) (by kernel_rfl) (by kernel_rfl)) hS (zC 12 rfl (zP rfl) hS (zC 13 rfl (zI (o := 0) rfl) hS (zN 14 rfl hw (yH 0 rfl rfl rfl (xx rfl) rfl (zE [1, 2] rfl (by decide) (fun w' hw hS => ?_)))))))))))))
    refine zX ?_
    exact ⟨⟨rfl, rfl, trivial⟩, trivial, hw⟩
  refine zB (zD rfl (zH rfl rfl (fun w' hw => (x2 cb jb ({ t with term := t.term + 1, vote := a.id } : TimD) a r b yv (pt ob) draw 0 w' (hw.give [0] rfl (by decide))).mono ?_)))
  rintro _ w1 ⟨rfl, hO⟩
  refine (?_ : CL _ _ _ _ _ _ (Own w S [Res.nl b lv es, Res.ou ob o, ze cb ({ t with term := t.term + 1, vote := a.id } : TimD) (.pointer none) a ({ role := 1, who := 0, commit := r.commit } : RolD) b (.slice none 0 0) jb draw (pt ob)])) w1 (hw.frameL [0] rfl hO)
  refine zA (xD (fun (yv' : Value) => [(0, pt cb), (1, .bool force)]) (fun (yv' : Value) => True) (fun (yv' : Value) => [ze cb ({ t with term := t.term + 1, vote := a.id } : TimD) (.pointer none) a ({ role := 3, who := 0, commit := r.commit } : RolD) b yv' jb draw (pt ob), Res.nl b lv es, Res.ou ob o, vI yv' [a.id]]) ?_ (fun yv' g hΦ => ?_))
  ·
   refine zW (zD rfl (zD rfl (zD rfl (zh rfl rfl (zJ (o := 10) rfl rfl (zM 2 (v := Vi a.id) rfl rfl rfl rfl (z4 (e := 3) (sz := 1) (vs := [Vi a.id]) (by kernel_rfl) rfl rfl (by simp [Value.cells]) (by decide) rfl (fun b26 => zh rfl rfl (zJ (o := 21) rfl rfl (zo 2 rfl rfl rfl rfl rfl (zh rfl rfl (zJ (o := 30) rfl rfl ?_))))))))))))
   refine zo 2 rfl rfl rfl rfl rfl ?_
   exact zj (fun w' hw => ⟨(.slice (some ⟨b26, 0, none⟩) 1 1), ⟨rfl, rfl, trivial⟩, trivial, hw.sel [2, 0, 1, 3] rfl (by decide)⟩)
  refine zAW ([(0, pt cb), (1, .bool force)]) (True) ([ze cb ({ t with term := t.term + 1, vote := a.id, due := t.now + yl a draw } : TimD) (.pointer none) a ({ role := 3, who := 0, commit := r.commit } : RolD) b yv' jb draw (pt ob), Res.nl b lv es, Res.ou ob o, vI yv' [a.id]]) ?_ (fun g hΦ => ?_)
  ·
   refine zk [1, 2, 3] rfl (by decide) (by kernel_rfl) (fun w' hw hS => zC 0 rfl (zU) hS (zC 1 rfl (zU) hS (zC 2 rfl (zP rfl) hS (zC 3 rfl (zI (o := 2) rfl) hS (zC 4 rfl (zI (o := 0) rfl) hS (zC 6 rfl (zU) hS (yA 5 7 ?_ ?_)))))))
   ·
    refine zr 5 rfl hw (zM 0 (v := Vi t.now) rfl rfl rfl rfl (zE [1, 2, 3] rfl (by decide) (fun w' hw hS => zN 7 rfl hw (zH rfl rfl (fun w' hw => (x9 cb jb ({ t with term := t.term + 1, vote := a.id } : TimD) a ({ role := 3, who := 0, commit := r.commit } : RolD) b (.pointer none) yv' (pt ob) draw w' ‹_› (by first | omega | (simp <;> omega)) (hw.give [0] rfl (by decide))).mono ?_)))))
    rintro _ w1 ⟨rfl, hO⟩
    refine (?_ : CL _ _ _ _ _ _ (Own w S [Res.nl b lv es, Res.ou ob o, vI yv' [a.id], ze cb ({ t with term := t.term + 1, vote := a.id } : TimD) (.pointer none) a ({ role := 3, who := 0, commit := r.commit } : RolD) b yv' jb draw (pt ob)])) w1 (hw.frameL [0] rfl hO)
    refine zE [0, 1, 2] rfl (by decide) (fun w' hw hS => zC 8 rfl (yw rfl rfl (zy (by omega))) hS (zC 9 rfl (zP rfl) hS (zC 10 rfl (zI (o := 2) rfl) hS (zC 11 rfl (zI (o := 2) rfl) hS (zN 12 rfl hw (zo 3 rfl rfl rfl rfl rfl (zE [0, 1, 2] rfl (by decide) (fun w' hw hS => zX ?_))))))))
    exact ⟨⟨rfl, rfl, trivial⟩, trivial, hw.sel [3, 0, 1, 2] rfl (by decide)⟩
   ·
    refine zr 7 rfl hw (zH rfl rfl (fun w' hw => (x9 cb jb ({ t with term := t.term + 1, vote := a.id } : TimD) a ({ role := 3, who := 0, commit := r.commit } : RolD) b (.pointer none) yv' (pt ob) draw w' ‹_› (by first | omega | (simp <;> omega)) (hw.give [0] rfl (by decide))).mono ?_))
    rintro _ w1 ⟨rfl, hO⟩
    refine (?_ : CL _ _ _ _ _ _ (Own w S [Res.nl b lv es, Res.ou ob o, vI yv' [a.id], ze cb ({ t with term := t.term + 1, vote := a.id } : TimD) (.pointer none) a ({ role := 3, who := 0, commit := r.commit } : RolD) b yv' jb draw (pt ob)])) w1 (hw.frameL [0] rfl hO)
    refine zE [0, 1, 2] rfl (by decide) (fun w' hw hS => zN 5 rfl hw (zM 3 (v := Vi t.now) rfl rfl rfl rfl (zE [0, 1, 2] rfl (by decide) (fun w' hw hS => zC 8 rfl (yw rfl rfl (zy (by omega))) hS (zC 9 rfl (zP rfl) hS (zC 10 rfl (zI (o := 2) rfl) hS (zC 11 rfl (zI (o := 2) rfl) hS (zN 12 rfl hw (zo 3 rfl rfl rfl rfl rfl (zE [0, 1, 2] rfl (by decide) (fun w' hw hS => zX ?_)))))))))))
    exact ⟨⟨rfl, rfl, trivial⟩, trivial, hw.sel [3, 0, 1, 2] rfl (by decide)⟩
  refine zQ (zB (zD rfl (zH rfl rfl (fun w' hw => (j8 cb jb ({ t with term := t.term + 1, vote := a.id, due := t.now + yl a draw } : TimD) a ({ role := 3, who := 0, commit := r.commit } : RolD) b (.pointer none) yv' (pt ob) draw _ _ w' ‹_› (by first | omega | (simp <;> omega)) (by first | omega | (simp <;> omega)) (hw.give [0, 1] rfl (by decide))).mono ?_))))
  rintro _ w1 ⟨rfl, hO⟩
  refine (?_ : CL _ _ _ _ _ _ (Own w S [Res.ou ob o, vI yv' [a.id], ze cb ({ t with term := t.term + 1, vote := a.id, due := t.now + yl a draw } : TimD) (.pointer none) a ({ role := 3, who := 0, commit := r.commit } : RolD) b yv' jb draw (pt ob), Res.nl b lv es])) w1 (hw.frameL [0, 1] rfl hO)
  refine zA (zf rfl (fun c1 => ?_) (fun c1 => ?_))
  ·
   refine zB (zD rfl (zH rfl rfl (fun w' hw => (zDh cb jb ({ t with term := t.term + 1, vote := a.id, due := t.now + yl a draw } : TimD) a ({ role := 3, who := 0, commit := r.commit } : RolD) b yv' draw _ _ ob _ [a.id] w' ‹_› (by first | omega | (simp <;> omega)) (by first | omega | (simp <;> omega)) (by first | omega | (simp <;> omega) | (constructor <;> (first | omega | (simp <;> omega)))) (by show 1 ≤ t.term + 1 ∧ t.term + 1 ≤ _; omega) (by show _ ≤ t.term + 1; omega) hn (by first | omega | (simp <;> omega)) (hw.give [2, 3, 0] rfl (by decide))).mono ?_)))
   rintro _ w1 ⟨n1_, mv'2_, ms3_, rfl, hf5_1, hO⟩
   refine (?_ : CL _ _ _ _ _ _ (Own w S [vI yv' [a.id], ze cb n1_.t (yf n1_.y) a n1_.r b n1_.yv jb draw (pt ob), Res.nl b n1_.lv n1_.es, Res.lo n1_.y, vI n1_.yv n1_.yes, Res.ou ob ({ o with mv := mv'2_, msgs := o.msgs ++ ms3_ } : OutD)])) w1 (hw.frameL [2, 3, 0] rfl hO)
   refine zA ?_
   exact zY (yM rfl (fun w' hw => ⟨n1_, mv'2_, ms3_, rfl, (by rw [hf5_1]; unfold zAY; dsimp only; rw [if_pos c1]), hw.sel [1, 2, 3, 4, 5] rfl (by decide)⟩))
  ·
   refine zR (zW (zD rfl (zD rfl (yc (cs := [Vi 3, Vi 0, Vi 0, Vn 0, Vn 0, Vn 0, Vn 0, Vn 0, .bool force, .slice none 0 0, .slice none 0 0, .slice none 0 0, Vi 0, .slice none 0 0]) (z := [Vi 0, Vi 0, Vi 0, Vn 0, Vn 0, Vn 0, Vn 0, Vn 0, .bool false, .slice none 0 0, .slice none 0 0, .slice none 0 0, Vi 0, .slice none 0 0]) (pl := [(0, 1), (1, 1), (2, 1), (3, 1), (4, 1), (5, 1), (6, 1), (7, 1), (8, 1), (9, 1), (10, 2), (12, 1), (13, 1)]) (by kernel_rfl) (by kernel_rfl) rfl (zH rfl rfl (fun w' hw => (zDl cb jb ({ t with term := t.term + 1, vote := a.id, due := t.now + yl a draw } : TimD) a ({ role := 3, who := 0, commit := r.commit } : RolD) b (.pointer none) yv' draw _ _ ob _ 3 0 force w' ‹_› (by first | omega | (simp <;> omega)) (by first | omega | (simp <;> omega)) (by first | omega | (simp <;> omega)) (hw.give [2, 3, 0] rfl (by decide))).mono ?_))))))
   rintro _ w1 ⟨mv'4_, rfl, hO⟩
   refine (?_ : CL _ _ _ _ _ _ (Own w S [vI yv' [a.id], ze cb ({ t with term := t.term + 1, vote := a.id, due := t.now + yl a draw } : TimD) (.pointer none) a ({ role := 3, who := 0, commit := r.commit } : RolD) b yv' jb draw (pt ob), Res.nl b lv es, Res.ou ob ({ o with mv := mv'4_, msgs := o.msgs ++ yq a ({ t with term := t.term + 1, vote := a.id, due := t.now + yl a draw } : TimD).term (za b.vs (es.map EntD.toEntA)).vs 3 0 force es.length (LG 0 0 es).end_ } : OutD)])) w1 (hw.frameL [2, 3, 0] rfl hO)
   exact zj (yM rfl (fun w' hw => ⟨⟨{ t with term := t.term + 1, vote := a.id, due := t.now + yl a draw }, ⟨3, 0, r.commit⟩, lv, es, none, yv', [a.id]⟩, mv'4_, yq a (t.term + 1) (za b.vs (es.map EntD.toEntA)).vs 3 0 force es.length (LG 0 0 es).end_, rfl, (by unfold zAY zA3; dsimp only; rw [if_neg c1, List.length_map]; rfl), ((hw.starNil).sel [1, 2, 4, 0, 3] rfl (by decide))⟩))
theorem zJ6 {S : List Nat} (cb jb : Nat) (t : TimD) (a : StA) (r : RolD) (b : StB) (yv : Value) (draw : Nat) (lv : Value) (es : List EntD) (ob : Nat) (o : OutD) (yes : List Int) (w : World) (hg : (LG 0 0 es).good) (hl : es.length ≤ 100000) (hvl : b.vs.length ≤ 12) (hcm : 1 ≤ ((za b.vs (es.map EntD.toEntA)).vs ++ (za b.vs (es.map EntD.toEntA)).ls).length ∧ ((za b.vs (es.map EntD.toEntA)).vs ++ (za b.vs (es.map EntD.toEntA)).ls).length ≤ 12) (htm : t.term < 4611686018427387904) (hen : (LG 0 0 es).end_ ≤ t.term) (hn : 0 ≤ t.now ∧ t.now ≤ 1000000000000000) (ho : o.msgs.length ≤ 1000) (ha : a.ok) (hd : draw < 18446744073709551616) (hin : Own w S [ze cb t (.pointer none) a r b yv jb draw (pt ob), Res.nl b lv es, Res.ou ob o] w) : Rets Tryz.prog 37 #[pt cb] w fun u_ w' => ∃ (n : NdD) (mv' : Value) (ms : List MsgD), u_ = .tuple #[] ∧ (n.a, ms.map MsgD.a) = zHw a b.vs draw { t := t, r := r, E := es.map EntD.toEntA, ld := none, yes := yes } ∧ Own w S [ze cb n.t (yf n.y) a n.r b n.yv jb draw (pt ob), Res.nl b n.lv n.es, Res.lo n.y, vI n.yv n.yes, Res.ou ob ({ o with mv := mv', msgs := o.msgs ++ ms } : OutD)] w' := by
  refine zT Tryz.func37 rfl Tryz.ntmps37 hin ?_
  refine zB (zD rfl (zH rfl rfl (fun w' hw => (x2 cb jb t a r b yv (pt ob) draw 0 w' (hw.give [0] rfl (by decide))).mono ?_)))
  rintro _ w1 ⟨rfl, hO⟩
  refine (?_ : CL _ _ _ _ _ _ (Own w S [Res.nl b lv es, Res.ou ob o, ze cb t (.pointer none) a ({ role := 1, who := 0, commit := r.commit } : RolD) b (.slice none 0 0) jb draw (pt ob)])) w1 (hw.frameL [0] rfl hO)
  refine zA (zB (zD rfl (zD rfl (zD rfl (zh rfl rfl (zJ (o := 10) rfl rfl (zM 2 (v := Vi a.id) rfl rfl rfl rfl (z4 (e := 3) (sz := 1) (vs := [Vi a.id]) (by kernel_rfl) rfl rfl (by simp [Value.cells]) (by decide) rfl (fun b10 => zh rfl rfl (zJ (o := 21) rfl rfl (zo 2 rfl rfl rfl rfl rfl (zh rfl rfl ?_))))))))))))
  refine zJ (o := 30) rfl rfl (zo 2 rfl rfl rfl rfl rfl (zA (zQ (zB (zD rfl (zH rfl rfl (fun w' hw => (j8 cb jb t a ({ role := 2, who := 0, commit := r.commit } : RolD) b (.pointer none) (.slice (some ⟨b10, 0, none⟩) 1 1) (pt ob) draw _ _ w' ‹_› (by first | omega | (simp <;> omega)) (by first | omega | (simp <;> omega)) (hw.give [2, 0] rfl (by decide))).mono ?_)))))))
  rintro _ w1 ⟨rfl, hO⟩
  refine (?_ : CL _ _ _ _ _ _ (Own w S [Res.ou ob o, vI (.slice (some ⟨b10, 0, none⟩) 1 1) [a.id], ze cb t (.pointer none) a ({ role := 2, who := 0, commit := r.commit } : RolD) b (.slice (some ⟨b10, 0, none⟩) 1 1) jb draw (pt ob), Res.nl b lv es])) w1 (hw.frameL [2, 0] rfl hO)
  refine zA (zf rfl (fun c1 => ?_) (fun c1 => ?_))
  ·
   refine zB (zD rfl (zH rfl rfl (fun w' hw => (zCQ cb jb t a ({ role := 2, who := 0, commit := r.commit } : RolD) b (.slice (some ⟨b10, 0, none⟩) 1 1) draw _ _ ob _ false [a.id] w' ‹_› (by first | omega | (simp <;> omega)) (by first | omega | (simp <;> omega)) (by first | omega | (simp <;> omega) | (constructor <;> (first | omega | (simp <;> omega)))) (by first | omega | (simp <;> omega)) (by first | omega | (simp <;> omega)) (by first | omega | (simp <;> omega)) (by first | omega | (simp <;> omega)) ‹_› (by first | omega | (simp <;> omega)) (hw.give [2, 3, 0] rfl (by decide))).mono ?_)))
   rintro _ w1 ⟨n1_, mv'2_, ms3_, rfl, hf3_1, hO⟩
   refine (?_ : CL _ _ _ _ _ _ (Own w S [vI (.slice (some ⟨b10, 0, none⟩) 1 1) [a.id], ze cb n1_.t (yf n1_.y) a n1_.r b n1_.yv jb draw (pt ob), Res.nl b n1_.lv n1_.es, Res.lo n1_.y, vI n1_.yv n1_.yes, Res.ou ob ({ o with mv := mv'2_, msgs := o.msgs ++ ms3_ } : OutD)])) w1 (hw.frameL [2, 3, 0] rfl hO)
   refine zA ?_
   exact zY (yM rfl (fun w' hw => ⟨n1_, mv'2_, ms3_, rfl, (by rw [hf3_1]; unfold zHw; dsimp only; rw [if_pos c1]), hw.sel [1, 2, 3, 4, 5] rfl (by decide)⟩))
  ·
   refine zR (zW (zD rfl (zD rfl (zh rfl rfl (zJ (o := 0) rfl rfl (zJ (o := 0) rfl rfl (zM 2 (v := Vn t.term) rfl rfl rfl rfl (z3 rfl rfl (y6 (by omega)) rfl (yc (cs := [Vi 1, Vi 0, Vi 0, Vn (t.term + 1), Vn 0, Vn 0, Vn 0, Vn 0, .bool false, .slice none 0 0, .slice none 0 0, .slice none 0 0, Vi 0, .slice none 0 0]) (z := [Vi 0, Vi 0, Vi 0, Vn 0, Vn 0, Vn 0, Vn 0, Vn 0, .bool false, .slice none 0 0, .slice none 0 0, .slice none 0 0, Vi 0, .slice none 0 0]) (pl := [(0, 1), (1, 1), (2, 1), (3, 1), (4, 1), (5, 1), (6, 1), (7, 1), (8, 1), (9, 1), (10, 2), (12, 1), (13, 1)]) (by kernel_rfl) (by kernel_rfl) rfl (zH rfl rfl (fun w' hw => (zDl cb jb t a ({ role := 2, who := 0, commit := r.commit } : RolD) b (.pointer none) (.slice (some ⟨b10, 0, none⟩) 1 1) draw _ _ ob _ 1 (t.term + 1) false w' ‹_› (by first | omega | (simp <;> omega)) (by first | omega | (simp <;> omega)) (by first | omega | (simp <;> omega)) (hw.give [2, 3, 0] rfl (by decide))).mono ?_)))))))))))
   rintro _ w1 ⟨mv'4_, rfl, hO⟩
   refine (?_ : CL _ _ _ _ _ _ (Own w S [vI (.slice (some ⟨b10, 0, none⟩) 1 1) [a.id], ze cb t (.pointer none) a ({ role := 2, who := 0, commit := r.commit } : RolD) b (.slice (some ⟨b10, 0, none⟩) 1 1) jb draw (pt ob), Res.nl b lv es, Res.ou ob ({ o with mv := mv'4_, msgs := o.msgs ++ yq a t.term (za b.vs (es.map EntD.toEntA)).vs 1 (t.term + 1) false es.length (LG 0 0 es).end_ } : OutD)])) w1 (hw.frameL [2, 3, 0] rfl hO)
   exact zj (yM rfl (fun w' hw => ⟨⟨t, ⟨2, 0, r.commit⟩, lv, es, none, (.slice (some ⟨b10, 0, none⟩) 1 1), [a.id]⟩, mv'4_, yq a t.term (za b.vs (es.map EntD.toEntA)).vs 1 (t.term + 1) false es.length (LG 0 0 es).end_, rfl, (by unfold zHw zA3; dsimp only; rw [if_neg c1, List.length_map]; rfl), ((hw.starNil).sel [1, 2, 4, 0, 3] rfl (by decide))⟩))
end Go.Proofs.YtkkeknmkipkbmaaGreat
