import Derived.Test.YtkkeknmkipkbmaaGreatEnc2
set_option linter.unusedSectionVars false
set_option linter.unusedSimpArgs false
set_option linter.unusedVariables false
set_option maxRecDepth 10000
namespace Go.Proofs.YtkkeknmkipkbmaaGreat
open Go Go.Sc Go.Proofs
structure MsgA where
  kind : Int
  src : Int
  dst : Int
  term : Nat
  index : Nat
  logTerm : Nat
  commit : Nat
  round : Nat
  flag : Bool
  ents : List EntA
  conf : ConfA
  off : Int
  data : List UInt8
  deriving DecidableEq
structure MsgD where
  kind : Int
  src : Int
  dst : Int
  term : Nat
  index : Nat
  logTerm : Nat
  commit : Nat
  round : Nat
  flag : Bool
  ev : Value
  ents : List EntD
  conf : ConfD
  off : Int
  dv : Value
  data : List UInt8
def MsgD.a (x : MsgD) : MsgA := ⟨x.kind, x.src, x.dst, x.term, x.index, x.logTerm, x.commit, x.round, x.flag, x.ents.map EntD.toEntA, x.conf.a, x.off, x.data⟩
structure MsgD.wf (x : MsgD) : Prop where
  term : x.term < 18446744073709551616
  index : x.index < 18446744073709551616
  logTerm : x.logTerm < 18446744073709551616
  commit : x.commit < 18446744073709551616
  round : x.round < 18446744073709551616
  ents : x.ents.length ≤ 1048576
  each : ∀ e ∈ x.ents, e.wf
  conf : x.conf.few
  fewer : x.conf.vs.length ≤ 1048576 ∧ x.conf.ls.length ≤ 1048576
  data : x.data.length ≤ 1000000000
  all : (x.ents.map fun e => e.data.length).sum ≤ 100000000
def MsgD.cells (x : MsgD) : List Value := [.int .i64 x.kind, .int .i64 x.src, .int .i64 x.dst, .int .u64 x.term, .int .u64 x.index, .int .u64 x.logTerm, .int .u64 x.commit, .int .u64 x.round, .bool x.flag, x.ev] ++ (x.conf.cells ++ [.int .i64 x.off, x.dv])
structure MsgD.rd (x : MsgD) (w : World) (S : List Nat) : Prop where
  ev : Rd w S (Res.sl x.ev x.ents.length (x.ents.flatMap EntD.cells))
  ev_all : ∀ p ∈ x.ents, EntD.rd p w S
  conf : x.conf.rd w S
  dv : Rd w S (Res.sl x.dv x.data.length (x.data.map vb))
theorem MsgD.rd.at0 {x : MsgD} {w0 w : World} {S : List Nat} {L : List Res} (h : x.rd w0 S) (hw : Own w0 S L w) : x.rd w [] := ⟨hw.rd0 h.ev, fun p hp => (h.ev_all p hp).at0 hw, h.conf.at0 hw, hw.rd0 h.dv⟩
theorem MsgD.rd.at {x : MsgD} {w0 w : World} {S : List Nat} {L Lin : List Res} (h : x.rd w0 S) (hw : Own w0 S L w) (m : List Nat) (hm : m.mapM (fun i => L[i]?) = some Lin) : x.rd w (y8 Lin) := ⟨hw.rdTo h.ev m hm, fun p hp => (h.ev_all p hp).at hw m hm, h.conf.at hw m hm, hw.rdTo h.dv m hm⟩
def MsgA.head (x : MsgA) : Prop := ((1 ≤ x.kind ∧ x.kind ≤ 9) ∧ (1 ≤ x.src ∧ x.src ≤ 16) ∧ (1 ≤ x.dst ∧ x.dst ≤ 16) ∧ (0 ≤ x.off ∧ x.off ≤ 65536) ∧ x.data.length ≤ 256 ∧ x.ents.length ≤ 8) ∧ (if x.kind = 7 then x.conf.ok else x.conf.vs.length = 0 ∧ x.conf.ls.length = 0)
instance (x : MsgA) : Decidable x.head := by unfold MsgA.head; infer_instance
def MsgA.ok (x : MsgA) : Prop := x.head ∧ ∀ e ∈ x.ents, e.ok
theorem MsgD.ok_iff {x : MsgD} : x.a.ok ↔ x.a.head ∧ ∀ e ∈ x.ents, e.ok := by simp [MsgA.ok, MsgD.a]
theorem MsgD.head_iff {x : MsgD} : x.a.head ↔ ((1 ≤ x.kind ∧ x.kind ≤ 9) ∧ (1 ≤ x.src ∧ x.src ≤ 16) ∧ (1 ≤ x.dst ∧ x.dst ≤ 16) ∧ (0 ≤ x.off ∧ x.off ≤ 65536) ∧ x.data.length ≤ 256 ∧ x.ents.length ≤ 8) ∧ (if x.kind = 7 then x.conf.ok else x.conf.vs.length = 0 ∧ x.conf.ls.length = 0) := by
  unfold MsgA.head MsgD.a; simp only [List.length_map]; exact Iff.rfl
instance (x : MsgA) : Decidable x.ok := by unfold MsgA.ok; infer_instance
def zAf (es : List EntA) : List UInt8 := es.flatMap EntA.enc
def MsgA.enc (x : MsgA) : List UInt8 := zp [u64 x.kind, u64 x.src, u64 x.dst] ++ zp [x.term, x.index, x.logTerm, x.commit, x.round] ++ zp [fl x.flag] ++ zp [x.ents.length] ++ zAf x.ents ++ x.conf.enc ++ zp [u64 x.off] ++ dat x.data
theorem zHZ {es : List EntD} (h : ∀ e ∈ es, e.wf) : (zAf (es.map EntD.toEntA)).length ≤ (es.map fun e => e.data.length).sum + 60 * es.length := by
  induction es with
  | nil => simp [zAf]
  | cons e es ih =>
    have h1 := EntA.enc_le (h e (by simp))
    have h2 := ih fun x hx => h x (by simp [hx])
    simp only [zAf, List.map_cons, List.flatMap_cons, List.length_append, List.sum_cons, List.length_cons] at *
    omega
theorem MsgD.enc_le {x : MsgD} (h : x.wf) : x.a.enc.length ≤ 10000000000 ∧ (zAf (x.ents.map EntD.toEntA)).length ≤ 200000000 ∧ x.conf.enc.length ≤ 90000000 := by
  have h1 := yI (ns := [u64 x.kind, u64 x.src, u64 x.dst]) (by simp [y2])
  have h2 := yI (ns := [x.term, x.index, x.logTerm, x.commit, x.round]) (by have := h.term; have := h.index; have := h.logTerm; have := h.commit; have := h.round; simp [*])
  have h3 := yI (ns := [fl x.flag]) (by simp [zHg])
  have h4 := yI (ns := [x.ents.length]) (by have := h.ents; simp; omega)
  have h5 := yI (ns := [u64 x.off]) (by simp [y2])
  have h6 := jA x.data (by have := h.data; omega)
  have h7 := zHZ h.each
  have h8 : x.conf.enc.length ≤ _ := x.conf.enc_le
  have h9 := h.fewer.1
  have h10 := h.fewer.2
  have h11 := h.data
  have h12 := h.ents
  have h13 := h.all
  have e : x.a.enc.length = (zp [u64 x.kind, u64 x.src, u64 x.dst]).length + (zp [x.term, x.index, x.logTerm, x.commit, x.round]).length + (zp [fl x.flag]).length + (zp [x.ents.length]).length + (zAf (x.ents.map EntD.toEntA)).length + x.conf.enc.length + (zp [u64 x.off]).length + (dat x.data).length := by
    simp only [MsgA.enc, MsgD.a, ConfD.enc, ConfA.enc, ConfD.a, List.length_append, List.length_map]
  simp only [List.length_cons, List.length_nil] at *
  omega
theorem zDP (n : Int) (w : World) : Rets Tryz.prog 125 #[Vi n] w fun u_ w' => u_ = .bool (decide (1 ≤ n ∧ n ≤ 16)) ∧ Own w [] [] w' := by
  refine zT Tryz.func125 rfl Tryz.ntmps125 (Own.start w) ?_
  refine zB (zK rfl (zA (zB (zD rfl (kK rfl rfl rfl (zD rfl (yd (q := 1 ≤ n) 2 2 [7, 6] (n ≤ 16) rfl rfl rfl rfl rfl rfl trivial rfl (fun h1_2 => ?_) (fun g1_5 => ?_))))))))
  ·
   refine zO rfl (gT h1_2) (zD rfl (zO rfl (gT h1_2) (x4 rfl rfl rfl ?_)))
   exact yK rfl (fun _ hw => hw)
  refine zK rfl (zA ?_)
  exact zY (yD (v := .bool (decide ((1 ≤ n) ∧ (n ≤ 16)))) rfl rfl (fun w' hw => ⟨rfl, hw.drop⟩))
theorem zHs (x : EntD) (eb : Nat) (w : World) (hx : x.wf) (heb : Rd w [] (Res.row eb 218 [.func (.func 166) #[] #[], .func (.func 167) #[] #[], .func (.func 168) #[] #[]])) (rd_x : EntD.rd x w []) : Rets Tryz.prog 128 #[.agg (EntD.cells x).toArray, .pointer (some ⟨eb, 0, none⟩)] w fun u_ w' => u_ = .bool (decide (¬ x.ok)) ∧ Own w [] [] w' := by
  refine zT Tryz.func128 rfl Tryz.ntmps128 (Own.start w) ?_
  refine zB (z7 rfl rfl (fun b2 => zK rfl (zA (zB (zJ (o := 0) rfl rfl (xq (v := .func (.func 166) #[] #[]) rfl (heb.φ.cell rfl) (heb.far _ (by simp [Res.row])) (by kernel_rfl) rfl (yY (cs := (EntD.cells x)) 0 rfl rfl rfl (yh (fst := []) (cap := []) rfl (by kernel_rfl) rfl rfl (fun w' hw => (zBH x w' ‹_› (rd_x.at0 hw)).mono ?_)))))))))
  rintro _ w1 ⟨rfl, hO⟩
  refine (?_ : CL _ _ _ _ _ _ (Own w [] [Res.row b2 81 (EntD.cells x)])) w1 (hw.frame0 hO)
  refine xM (q := x.ok) rfl rfl (zK rfl (zA ?_))
  exact zY (yD (v := .bool (decide (¬ x.ok))) rfl rfl (fun w' hw => ⟨rfl, hw.drop⟩))
theorem zGx (v : Value) (l : List EntD) (eb : Nat) (w : World) (hl : zd l.length) (hx : ∀ e ∈ l, e.wf) (heb : Rd w [] (Res.row eb 218 [.func (.func 166) #[] #[], .func (.func 167) #[] #[], .func (.func 168) #[] #[]])) (hv : Rd w [] (Res.sl v l.length (l.flatMap EntD.cells))) (all_hv : ∀ p ∈ l, EntD.rd p w []) : Rets Tryz.prog 169 #[v, .func (.func 128) #[] #[.pointer (some ⟨eb, 0, none⟩)]] w fun u_ w' => ∃ (i : Int), u_ = Vi i ∧ (0 ≤ i ↔ ∃ q ∈ l, ¬ q.ok) ∧ Own w [] [] w' := by
  refine zT Tryz.func169 rfl Tryz.ntmps169 (Own.start w) ?_
  refine zB (zK rfl (zA (zQ (zB (zD rfl (zq (pR hv) rfl rfl (zD rfl (zA (zc ?_)))))))))
  refine xS (fun (k : Nat) => [(0, v), (1, .func (.func 128) #[] #[.pointer (some ⟨eb, 0, none⟩)]), (7, Vj l.length), (8, Vj k)]) (fun (k : Nat) => k ≤ l.length ∧ ∀ e ∈ l.take k, e.ok) (fun (k : Nat) => []) (fun (k : Nat) => l.length - k) (fun w' hw => ⟨0, ⟨rfl, rfl, rfl, rfl, trivial⟩, ⟨Nat.zero_le _, by simp⟩, hw⟩) (fun k g hΦ => ?_)
  refine zB (yJ rfl rfl rfl (zA (zQ (zf rfl (fun c1 => ?_) (fun c1 => ?_)))))
  ·
   refine zR (zQ (zc (zB (zD rfl (zK rfl (zA (zB (zD rfl (zD rfl (zD rfl (zm (pR hv) 5 k rfl rfl rfl (by omega) rfl (kd (pR hv) 5 k (off := xF v + k * 5) (fun _ => rfl) rfl rfl (by omega) rfl ?_))))))))))))
   refine yh (fst := []) (cap := [.pointer (some ⟨eb, 0, none⟩)]) rfl (by kernel_rfl) rfl rfl (fun w' hw => (zHs (zG l k) eb w' (hx _ (zl (by omega))) (hw.rd0 heb) ((all_hv _ (zl (by omega))).at0 hw)).mono ?_)
   rintro _ w1 ⟨rfl, hO⟩
   refine (?_ : CL _ _ _ _ _ _ (Own w [] [])) w1 (hw.frame0 hO)
   refine zA (zf rfl (fun c2 => ?_) (fun c2 => ?_))
   ·
    refine zB (zD rfl (zK rfl (zA ?_)))
    exact zY (yD (v := Vj k) rfl rfl (fun w' hw => ⟨k, rfl, ⟨fun _ => ⟨_, zl (by omega), c2⟩, fun _ => by omega⟩, hw.drop⟩))
   ·
    refine zR (zW (z3 rfl rfl (zy (by omega)) rfl (zD rfl ?_)))
    exact zj (fun w' hw => ⟨k + 1, ⟨rfl, rfl, rfl, rfl, trivial⟩, ⟨by omega, by rw [zu (by omega)]; intro v hv; rcases List.mem_append.1 hv with h | h; exact hΦ.2 v h; simp at h; rw [h]; exact Decidable.not_not.1 c2⟩, hw, (by omega)⟩)
  ·
   refine yQ rfl (zB (zK rfl (zA ?_)))
   exact zY (yD (v := Vi (-1)) rfl rfl (fun w' hw => ⟨-1, rfl, ⟨fun h => by omega, fun ⟨v, h, h'⟩ => by have h2 := hΦ.2; rw [List.take_of_length_le (by omega)] at h2; exact absurd (h2 v h) h'⟩, hw.drop⟩))
theorem zGf (v : Value) (l : List EntD) (eb : Nat) (w : World) (hl : zd l.length) (hx : ∀ e ∈ l, e.wf) (heb : Rd w [] (Res.row eb 218 [.func (.func 166) #[] #[], .func (.func 167) #[] #[], .func (.func 168) #[] #[]])) (hv : Rd w [] (Res.sl v l.length (l.flatMap EntD.cells))) (all_hv : ∀ p ∈ l, EntD.rd p w []) : Rets Tryz.prog 127 #[v, .func (.func 128) #[] #[.pointer (some ⟨eb, 0, none⟩)]] w fun u_ w' => u_ = .bool (decide (∃ q ∈ l, ¬ q.ok)) ∧ Own w [] [] w' := by
  refine zT Tryz.func127 rfl Tryz.ntmps127 (Own.start w) ?_
  refine zB (zK rfl (zA (zB (zD rfl (zD rfl (zH rfl rfl (fun w' hw => (zGx v l eb w' (by first | assumption | omega | (simp <;> omega) | (constructor <;> (first | omega | (simp only [zd]; omega) | (simp <;> omega)))) ‹_› (hw.rd0 heb) (hw.rd0 hv) (fun p hp => EntD.rd.at0 (all_hv p hp) hw)).mono ?_)))))))
  rintro _ w1 ⟨i1_, rfl, hf1_2, hO⟩
  refine (?_ : CL _ _ _ _ _ _ (Own w [] [])) w1 (hw.frame0 hO)
  refine kK rfl rfl rfl (zK rfl (zA ?_))
  exact zY (yD (v := .bool (decide (0 ≤ i1_))) rfl rfl (fun w' hw => ⟨(by congr 1; exact decide_eq_decide.2 (by omega)), hw.drop⟩))
theorem zEJ (x : MsgD) (nb : Nat) (cb : Nat) (eb : Nat) (w : World) (hx : x.wf) (hnb : Rd w [] (Res.row nb 172 [.func (.func 125) #[] #[]])) (hcb : Rd w [] (Res.row cb 193 [.func (.func 147) #[] #[], .func (.func 151) #[] #[], .func (.func 153) #[] #[]])) (heb : Rd w [] (Res.row eb 218 [.func (.func 166) #[] #[], .func (.func 167) #[] #[], .func (.func 168) #[] #[]])) (rd_x : MsgD.rd x w []) : Rets Tryz.prog 126 #[.agg (MsgD.cells x).toArray, .pointer (some ⟨nb, 0, none⟩), .pointer (some ⟨cb, 0, none⟩), .pointer (some ⟨eb, 0, none⟩)] w fun u_ w' => u_ = .bool (decide x.a.ok) ∧ Own w [] [] w' := by
  have hd := hx.data
  have hf := hx.conf
  have hc := hx.conf.wf
  have hv := hc.vs
  have hl := hc.ls
  have he := hx.ents
  refine zT Tryz.func126 rfl Tryz.ntmps126 (Own.start w) ?_
  refine zB (z7 rfl rfl (fun b4 => zK rfl (zA (zQ (zB (zJ (o := 0) rfl rfl (zM 0 (v := Vi x.kind) rfl rfl rfl rfl (yJ rfl rfl rfl (zD rfl (yT (q := x.kind < 1) 3 3 [12, 11, 10] (9 < x.kind) rfl rfl rfl rfl rfl rfl trivial rfl (fun h1_3 => ?_) (fun g1_7 => ?_)))))))))))
  ·
   refine zO rfl (gF h1_3) (zJ (o := 0) rfl rfl (zO rfl (gF h1_3) (zM 0 (v := Vi x.kind) rfl rfl rfl rfl (zO rfl (gF h1_3) (yo rfl rfl rfl ?_)))))
   exact yK rfl (fun _ hw => hw)
  refine zD rfl (yT (q := (x.kind < 1) ∨ (9 < x.kind)) 5 8 [19, 18, 17, 16, 15] (¬ (1 ≤ x.src ∧ x.src ≤ 16)) rfl rfl rfl rfl rfl rfl trivial rfl (fun h1_8 => ?_) (fun g1_14 => ?_))
  ·
   refine zO rfl (gF h1_8) (xq (v := .func (.func 125) #[] #[]) rfl (hnb.φ.cell rfl) (hnb.far _ (by simp [Res.row])) (by kernel_rfl) rfl (zO rfl (gF h1_8) (zJ (o := 1) rfl rfl (zO rfl (gF h1_8) (zM 0 (v := Vi x.src) rfl rfl rfl rfl (zO rfl (gF h1_8) (yh (fst := []) (cap := []) rfl (by kernel_rfl) rfl rfl (fun w' hw => (zDP x.src w').mono ?_))))))))
   rintro _ w1 ⟨rfl, hO⟩
   refine (?_ : CL _ _ _ _ _ _ (Own w [] [Res.row b4 59 (MsgD.cells x)])) w1 (hw.frame0 hO)
   refine zO rfl (gF h1_8) (xM (q := 1 ≤ x.src ∧ x.src ≤ 16) rfl rfl ?_)
   exact yK rfl (fun _ hw => hw)
  refine zD rfl (yT (q := ((x.kind < 1) ∨ (9 < x.kind)) ∨ (¬ (1 ≤ x.src ∧ x.src ≤ 16))) 5 15 [26, 25, 24, 23, 22] (¬ (1 ≤ x.dst ∧ x.dst ≤ 16)) rfl rfl rfl rfl rfl rfl trivial rfl (fun h1_15 => ?_) (fun g1_21 => ?_))
  ·
   refine zO rfl (gF h1_15) (xq (v := .func (.func 125) #[] #[]) rfl (hnb.φ.cell rfl) (hnb.far _ (by simp [Res.row])) (by kernel_rfl) rfl (zO rfl (gF h1_15) (zJ (o := 2) rfl rfl (zO rfl (gF h1_15) (zM 0 (v := Vi x.dst) rfl rfl rfl rfl (zO rfl (gF h1_15) (yh (fst := []) (cap := []) rfl (by kernel_rfl) rfl rfl (fun w' hw => (zDP x.dst w').mono ?_))))))))
   rintro _ w1 ⟨rfl, hO⟩
   refine (?_ : CL _ _ _ _ _ _ (Own w [] [Res.row b4 59 (MsgD.cells x)])) w1 (hw.frame0 hO)
   refine zO rfl (gF h1_15) (xM (q := 1 ≤ x.dst ∧ x.dst ≤ 16) rfl rfl ?_)
   exact yK rfl (fun _ hw => hw)
  refine zD rfl (yT (q := (((x.kind < 1) ∨ (9 < x.kind)) ∨ (¬ (1 ≤ x.src ∧ x.src ≤ 16))) ∨ (¬ (1 ≤ x.dst ∧ x.dst ≤ 16))) 3 22 [31, 30, 29] (x.off < 0) rfl rfl rfl rfl rfl rfl trivial rfl (fun h1_22 => ?_) (fun g1_26 => ?_))
  ·
   refine zO rfl (gF h1_22) (zJ (o := 12) rfl rfl (zO rfl (gF h1_22) (zM 0 (v := Vi x.off) rfl rfl rfl rfl (zO rfl (gF h1_22) (yJ rfl rfl rfl ?_)))))
   exact yK rfl (fun _ hw => hw)
  refine zD rfl (yT (q := ((((x.kind < 1) ∨ (9 < x.kind)) ∨ (¬ (1 ≤ x.src ∧ x.src ≤ 16))) ∨ (¬ (1 ≤ x.dst ∧ x.dst ≤ 16))) ∨ (x.off < 0)) 3 27 [36, 35, 34] (65536 < x.off) rfl rfl rfl rfl rfl rfl trivial rfl (fun h1_27 => ?_) (fun g1_31 => ?_))
  ·
   refine zO rfl (gF h1_27) (zJ (o := 12) rfl rfl (zO rfl (gF h1_27) (zM 0 (v := Vi x.off) rfl rfl rfl rfl (zO rfl (gF h1_27) (yo rfl rfl rfl ?_)))))
   exact yK rfl (fun _ hw => hw)
  refine zD rfl (yT (q := (((((x.kind < 1) ∨ (9 < x.kind)) ∨ (¬ (1 ≤ x.src ∧ x.src ≤ 16))) ∨ (¬ (1 ≤ x.dst ∧ x.dst ≤ 16))) ∨ (x.off < 0)) ∨ (65536 < x.off)) 4 32 [42, 41, 40, 39] (256 < ((x.data.length : Nat) : Int)) rfl rfl rfl rfl rfl rfl trivial rfl (fun h1_32 => ?_) (fun g1_37 => ?_))
  ·
   refine zO rfl (gF h1_32) (zJ (o := 13) rfl rfl (zO rfl (gF h1_32) (zM 0 (v := x.dv) rfl rfl rfl rfl (zO rfl (gF h1_32) (zq (pR rd_x.dv) rfl rfl (zO rfl (gF h1_32) (yo rfl rfl rfl ?_)))))))
   exact yK rfl (fun _ hw => hw)
  refine zD rfl (yT (q := ((((((x.kind < 1) ∨ (9 < x.kind)) ∨ (¬ (1 ≤ x.src ∧ x.src ≤ 16))) ∨ (¬ (1 ≤ x.dst ∧ x.dst ≤ 16))) ∨ (x.off < 0)) ∨ (65536 < x.off)) ∨ (256 < ((x.data.length : Nat) : Int))) 4 38 [48, 47, 46, 45] (8 < ((x.ents.length : Nat) : Int)) rfl rfl rfl rfl rfl rfl trivial rfl (fun h1_38 => ?_) (fun g1_43 => ?_))
  ·
   refine zO rfl (gF h1_38) (zJ (o := 9) rfl rfl (zO rfl (gF h1_38) (zM 0 (v := x.ev) rfl rfl rfl rfl (zO rfl (gF h1_38) (zq (pR rd_x.ev) rfl rfl (zO rfl (gF h1_38) (yo rfl rfl rfl ?_)))))))
   exact yK rfl (fun _ hw => hw)
  refine zA (zf rfl (fun c1 => ?_) (fun c1 => ?_))
  ·
   refine zB (zK rfl (zA ?_))
   exact zY (yD (v := .bool false) rfl rfl (fun w' hw => ⟨(by rw [decide_eq_false]; intro h; have h := (MsgD.head_iff.1 (MsgD.ok_iff.1 h).1).1; omega), hw.drop⟩))
  ·
   refine zR (zQ (zB (zJ (o := 0) rfl rfl (zM 0 (v := Vi x.kind) rfl rfl rfl rfl (yZ rfl rfl rfl (zD rfl (yd (q := x.kind = 7) 6 3 [59, 58, 57, 56, 55, 54] (¬ x.conf.ok) rfl rfl rfl rfl rfl rfl trivial rfl (fun h3_3 => ?_) (fun g3_10 => ?_))))))))
   ·
    refine zO rfl (gT h3_3) (zJ (o := 0) rfl rfl (zO rfl (gT h3_3) (xq (v := .func (.func 147) #[] #[]) rfl (hcb.φ.cell rfl) (hcb.far _ (by simp [Res.row])) (by kernel_rfl) rfl (zO rfl (gT h3_3) (zJ (o := 10) rfl rfl (zO rfl (gT h3_3) (zAO 0 (ConfD.cells x.conf) rfl rfl (kW 10 rfl) (by kernel_rfl) rfl (zO rfl (gT h3_3) (yh (fst := []) (cap := []) rfl (by kernel_rfl) rfl rfl (fun w' hw => (xl x.conf w' ‹_› (rd_x.conf.at0 hw)).mono ?_))))))))))
    rintro _ w1 ⟨rfl, hO⟩
    refine (?_ : CL _ _ _ _ _ _ (Own w [] [Res.row b4 59 (MsgD.cells x)])) w1 (hw.frame0 hO)
    refine zO rfl (gT h3_3) (xM (q := x.conf.ok) rfl rfl ?_)
    exact yK rfl (fun _ hw => hw)
   refine zD rfl (yT (q := (x.kind = 7) ∧ (¬ x.conf.ok)) 15 11 [76, 75, 74, 73, 72, 71, 70, 69, 68, 67, 66, 65, 64, 63, 62] ((x.kind ≠ 7) ∧ (0 < ((x.conf.vs.length + x.conf.ls.length : Nat) : Int))) rfl rfl rfl rfl rfl rfl trivial rfl (fun h3_11 => ?_) (fun g3_27 => ?_))
   ·
    refine zO rfl (gF h3_11) (zJ (o := 0) rfl rfl (zO rfl (gF h3_11) (zM 0 (v := Vi x.kind) rfl rfl rfl rfl (zO rfl (gF h3_11) (kR rfl rfl rfl (zO rfl (gF h3_11) (zD rfl (yd (q := x.kind ≠ 7) 10 15 [75, 74, 73, 72, 71, 70, 69, 68, 67, 66] (0 < ((x.conf.vs.length + x.conf.ls.length : Nat) : Int)) rfl rfl rfl rfl rfl rfl ⟨_, rfl, rfl, gF h3_11⟩ rfl (fun h3_15 => ?_) (fun g3_26 => ?_)))))))))
    ·
     refine zO rfl (gT h3_15) (zJ (o := 10) rfl rfl (zO rfl (gT h3_15) (zJ (o := 0) rfl rfl (zO rfl (gT h3_15) (zM 0 (v := x.conf.vv) rfl rfl rfl rfl (zO rfl (gT h3_15) (zq (pR rd_x.conf.vv) rfl rfl (zO rfl (gT h3_15) (zJ (o := 10) rfl rfl (zO rfl (gT h3_15) (zJ (o := 1) rfl rfl (zO rfl (gT h3_15) ?_))))))))))))
     refine zM 0 (v := x.conf.lv) rfl rfl rfl rfl (zO rfl (gT h3_15) (zq (pR rd_x.conf.lv) rfl rfl (zO rfl (gT h3_15) (z3 rfl rfl (zy (by omega)) rfl (zO rfl (gT h3_15) (yo rfl rfl rfl ?_))))))
     exact yK rfl (fun _ hw => hw)
    exact yK rfl (fun _ hw => hw)
   refine zA (zf rfl (fun c2 => ?_) (fun c2 => ?_))
   ·
    refine zB (zK rfl (zA ?_))
    exact zY (yD (v := .bool false) rfl rfl (fun w' hw => ⟨(by rw [decide_eq_false]; intro h; have h2 := (MsgD.head_iff.1 (MsgD.ok_iff.1 h).1).2; rcases c2 with ⟨e, h'⟩ | ⟨e, h'⟩; (rw [if_pos e] at h2; exact h' h2); (rw [if_neg e] at h2; omega)), hw.drop⟩))
   ·
    refine zR (zB (zJ (o := 9) rfl rfl (zM 0 (v := x.ev) rfl rfl rfl rfl (zAs (va := []) (vb := [.pointer (some ⟨eb, 0, none⟩)]) rfl rfl rfl (zH rfl rfl (fun w' hw => (zGf x.ev x.ents eb w' (by first | assumption | omega | (simp <;> omega) | (constructor <;> (first | omega | (simp only [zd]; omega) | (simp <;> omega)))) hx.each (hw.rd0 heb) (hw.rd0 rd_x.ev) (fun p hp => EntD.rd.at0 (rd_x.ev_all p hp) hw)).mono ?_))))))
    rintro _ w1 ⟨rfl, hO⟩
    refine (?_ : CL _ _ _ _ _ _ (Own w [] [Res.row b4 59 (MsgD.cells x)])) w1 (hw.frame0 hO)
    refine xM (q := ∃ q ∈ x.ents, ¬ q.ok) rfl rfl (zK rfl (zA ?_))
    exact zY (yD (v := .bool (decide (¬ (∃ q ∈ x.ents, ¬ q.ok)))) rfl rfl (fun w' hw => ⟨(by congr 1; exact decide_eq_decide.2 (by rw [MsgD.ok_iff]; exact ⟨fun h => ⟨MsgD.head_iff.2 ⟨by omega, by split; (rename_i e; exact Decidable.not_not.1 fun q => c2 (.inl ⟨e, q⟩)); (rename_i e; have := fun q => c2 (.inr ⟨e, q⟩); omega)⟩, fun e he => Decidable.not_not.1 fun q => h ⟨e, he, q⟩⟩, fun h ⟨e, he, q⟩ => q (h.2 e he)⟩)), hw.drop⟩))
def xm (es : List EntD) : List UInt8 := es.flatMap fun e => e.enc
theorem zDZ (es : List EntD) : xm es = zAf (es.map EntD.toEntA) := by simp only [xm, zAf, List.flatMap_map]
def MsgD.headB (x : MsgD) : List UInt8 := zp ([x.kind, x.src, x.dst].map u64) ++ zp [x.term, x.index, x.logTerm, x.commit, x.round] ++ zp ([x.flag].map fl) ++ zp ([(x.ents.length : Int)].map u64)
theorem zIC {n : Nat} (h : n < 18446744073709551616) : u64 (n : Int) = n := by unfold u64; omega
theorem MsgD.enc_eq {x : MsgD} (h : x.wf) : x.a.enc = x.headB ++ xm x.ents ++ x.conf.enc ++ zp ([x.off].map u64) ++ dat x.data := by
  have he := h.ents
  simp only [MsgA.enc, MsgD.a, MsgD.headB, zDZ, ConfD.enc, ConfA.enc, ConfD.a, List.length_map, List.map_cons, List.map_nil, zIC (show x.ents.length < 18446744073709551616 by omega)]
theorem MsgD.headB_le {x : MsgD} (h : x.wf) : x.headB.length ≤ 200 := by
  have h1 := yI (ns := [u64 x.kind, u64 x.src, u64 x.dst]) (by simp [y2])
  have h2 := yI (ns := [x.term, x.index, x.logTerm, x.commit, x.round]) (by have := h.term; have := h.index; have := h.logTerm; have := h.commit; have := h.round; simp [*])
  have h3 := yI (ns := [fl x.flag]) (by simp [zHg])
  have h4 := yI (ns := [u64 (x.ents.length : Int)]) (by simp [y2])
  simp only [MsgD.headB, List.map_cons, List.map_nil, List.length_append, List.length_cons, List.length_nil] at *
  omega
theorem zDy {S : List Nat} (o : Nat) (sl : Value) (bs : List UInt8) (x : MsgD) (eb : Nat) (cb : Nat) (w : World) (hx : x.wf) (hb : bs.length ≤ 1000000000) (hin : Own w S [Res.bv o yW sl bs] w) (heb : Rd w S (Res.row eb 218 [.func (.func 166) #[] #[], .func (.func 167) #[] #[], .func (.func 168) #[] #[]])) (hcb : Rd w S (Res.row cb 193 [.func (.func 147) #[] #[], .func (.func 151) #[] #[], .func (.func 153) #[] #[]])) (rd_x : MsgD.rd x w S) : Rets Tryz.prog 129 #[.pointer (some ⟨o, 0, none⟩), .agg (MsgD.cells x).toArray, .pointer (some ⟨eb, 0, none⟩), .pointer (some ⟨cb, 0, none⟩)] w fun u_ w' => ∃ (sl' : Value), u_ = .tuple #[] ∧ Own w S [Res.bv o yW sl' (bs ++ x.a.enc)] w' := by
  have hd := hx.data
  have hf := hx.conf
  have hc := hx.conf.wf
  have he := hx.ents
  have hle0 := x.enc_le hx
  have hle5 := hle0.2.2
  have hf1 := hf.vs
  have hf2 := hf.ls
  have hdl := jA x.data (by omega)
  have hol := yI (ns := [u64 x.off]) (by simp [y2])
  simp only [List.length_cons, List.length_nil] at hol
  have hh := MsgD.headB_le hx
  have hh2 : x.headB.length = (zp [u64 x.kind, u64 x.src, u64 x.dst]).length + (zp [x.term, x.index, x.logTerm, x.commit, x.round]).length + (zp [fl x.flag]).length + (zp [u64 (x.ents.length : Int)]).length := by simp [MsgD.headB]; omega
  refine zT Tryz.func129 rfl Tryz.ntmps129 hin ?_
  refine zB (z7 rfl rfl (fun b5 => zA (zB (zD rfl (zJ (o := 0) rfl rfl (zM 1 (v := Vi x.kind) rfl rfl rfl rfl (zJ (o := 1) rfl rfl (zM 1 (v := Vi x.src) rfl rfl rfl rfl (zJ (o := 2) rfl rfl (zM 1 (v := Vi x.dst) rfl rfl rfl rfl (z4 (e := 3) (sz := 1) (vs := [Vi x.kind, Vi x.src, Vi x.dst]) (by kernel_rfl) rfl rfl (by simp [Value.cells]) (by decide) rfl (fun b15 => zH rfl rfl (fun w' hw => ?_)))))))))))))
  refine (zBV o _ _ (.slice (some ⟨b15, 0, none⟩) 3 3) [x.kind, x.src, x.dst] w' (by first | omega | (simp <;> omega) | (constructor <;> (first | omega | (simp <;> omega)))) (hw.give [0] rfl (by decide)) (hw.rdVec 2 rfl [0] rfl rfl)).mono ?_
  rintro _ w1 ⟨sl'1_, rfl, hO⟩
  refine (?_ : CL _ _ _ _ _ _ (Own w S [Res.row b5 59 (MsgD.cells x), Res.vec 3 1 (.slice (some ⟨b15, 0, none⟩) 3 3) [x.kind, x.src, x.dst].length ([x.kind, x.src, x.dst].flatMap I1), Res.bv o yW sl'1_ (bs ++ zp ([x.kind, x.src, x.dst].map u64))])) w1 (hw.frameL [0] rfl hO)
  refine zA (zB (zD rfl (zJ (o := 3) rfl rfl (zM 0 (v := Vn x.term) rfl rfl rfl rfl (zJ (o := 4) rfl rfl (zM 0 (v := Vn x.index) rfl rfl rfl rfl (zJ (o := 5) rfl rfl (zM 0 (v := Vn x.logTerm) rfl rfl rfl rfl (zJ (o := 6) rfl rfl (zM 0 (v := Vn x.commit) rfl rfl rfl rfl (zJ (o := 7) rfl rfl (zM 0 (v := Vn x.round) rfl rfl rfl rfl ?_))))))))))))
  refine z4 (e := 22) (sz := 1) (vs := [Vn x.term, Vn x.index, Vn x.logTerm, Vn x.commit, Vn x.round]) (by kernel_rfl) rfl rfl (by simp [Value.cells]) (by decide) rfl (fun b28 => zH rfl rfl (fun w' hw => (js o sl'1_ (bs ++ zp ([x.kind, x.src, x.dst].map u64)) (.slice (some ⟨b28, 0, none⟩) 5 5) [x.term, x.index, x.logTerm, x.commit, x.round] w' (by have := hx.term; have := hx.index; have := hx.logTerm; have := hx.commit; have := hx.round; simp [*]) (by first | omega | (simp <;> omega) | (constructor <;> (first | omega | (simp <;> omega)))) (hw.give [2] rfl (by decide)) (hw.rdVec 3 rfl [2] rfl rfl)).mono ?_))
  rintro _ w1 ⟨sl'2_, rfl, hO⟩
  refine (?_ : CL _ _ _ _ _ _ (Own w S [Res.row b5 59 (MsgD.cells x), Res.vec 3 1 (.slice (some ⟨b15, 0, none⟩) 3 3) [x.kind, x.src, x.dst].length ([x.kind, x.src, x.dst].flatMap I1), Res.vec 22 1 (.slice (some ⟨b28, 0, none⟩) 5 5) [x.term, x.index, x.logTerm, x.commit, x.round].length ([x.term, x.index, x.logTerm, x.commit, x.round].flatMap U1), Res.bv o yW sl'2_ ((bs ++ zp ([x.kind, x.src, x.dst].map u64)) ++ zp [x.term, x.index, x.logTerm, x.commit, x.round])])) w1 (hw.frameL [2] rfl hO)
  refine zA (zB (zD rfl (zJ (o := 8) rfl rfl (zM 0 (v := .bool x.flag) rfl rfl rfl rfl (z4 (e := 4) (sz := 1) (vs := [.bool x.flag]) (by kernel_rfl) rfl rfl (by simp [Value.cells]) (by decide) rfl (fun b33 => zH rfl rfl (fun w' hw => (zH9 o sl'2_ ((bs ++ zp ([x.kind, x.src, x.dst].map u64)) ++ zp [x.term, x.index, x.logTerm, x.commit, x.round]) (.slice (some ⟨b33, 0, none⟩) 1 1) [x.flag] w' (by first | omega | (simp <;> omega) | (constructor <;> (first | omega | (simp <;> omega)))) (hw.give [3] rfl (by decide)) (hw.rdVec 4 rfl [3] rfl rfl)).mono ?_)))))))
  rintro _ w1 ⟨sl'3_, rfl, hO⟩
  refine (?_ : CL _ _ _ _ _ _ (Own w S [Res.row b5 59 (MsgD.cells x), Res.vec 3 1 (.slice (some ⟨b15, 0, none⟩) 3 3) [x.kind, x.src, x.dst].length ([x.kind, x.src, x.dst].flatMap I1), Res.vec 22 1 (.slice (some ⟨b28, 0, none⟩) 5 5) [x.term, x.index, x.logTerm, x.commit, x.round].length ([x.term, x.index, x.logTerm, x.commit, x.round].flatMap U1), Res.vec 4 1 (.slice (some ⟨b33, 0, none⟩) 1 1) [x.flag].length ([x.flag].flatMap B1), Res.bv o yW sl'3_ (((bs ++ zp ([x.kind, x.src, x.dst].map u64)) ++ zp [x.term, x.index, x.logTerm, x.commit, x.round]) ++ zp ([x.flag].map fl))])) w1 (hw.frameL [3] rfl hO)
  refine zA (zB (zD rfl (zJ (o := 9) rfl rfl (zM 0 (v := x.ev) rfl rfl rfl rfl (zq (pR rd_x.ev) rfl rfl (z4 (e := 3) (sz := 1) (vs := [Vj x.ents.length]) (by kernel_rfl) rfl rfl (by simp [Value.cells]) (by decide) rfl (fun b39 => zH rfl rfl (fun w' hw => (zBV o sl'3_ (((bs ++ zp ([x.kind, x.src, x.dst].map u64)) ++ zp [x.term, x.index, x.logTerm, x.commit, x.round]) ++ zp ([x.flag].map fl)) (.slice (some ⟨b39, 0, none⟩) 1 1) [((x.ents.length : Nat) : Int)] w' (by first | omega | (simp <;> omega) | (constructor <;> (first | omega | (simp <;> omega)))) (hw.give [4] rfl (by decide)) (hw.rdVec 5 rfl [4] rfl rfl)).mono ?_))))))))
  rintro _ w1 ⟨sl'4_, rfl, hO⟩
  refine (?_ : CL _ _ _ _ _ _ (Own w S [Res.row b5 59 (MsgD.cells x), Res.vec 3 1 (.slice (some ⟨b15, 0, none⟩) 3 3) [x.kind, x.src, x.dst].length ([x.kind, x.src, x.dst].flatMap I1), Res.vec 22 1 (.slice (some ⟨b28, 0, none⟩) 5 5) [x.term, x.index, x.logTerm, x.commit, x.round].length ([x.term, x.index, x.logTerm, x.commit, x.round].flatMap U1), Res.vec 4 1 (.slice (some ⟨b33, 0, none⟩) 1 1) [x.flag].length ([x.flag].flatMap B1), Res.vec 3 1 (.slice (some ⟨b39, 0, none⟩) 1 1) [((x.ents.length : Nat) : Int)].length ([((x.ents.length : Nat) : Int)].flatMap I1), Res.bv o yW sl'4_ ((((bs ++ zp ([x.kind, x.src, x.dst].map u64)) ++ zp [x.term, x.index, x.logTerm, x.commit, x.round]) ++ zp ([x.flag].map fl)) ++ zp ([((x.ents.length : Nat) : Int)].map u64))])) w1 (hw.frameL [4] rfl hO)
  refine zA (zQ (zB (zJ (o := 9) rfl rfl (zM 0 (v := x.ev) rfl rfl rfl rfl (zq (pR rd_x.ev) rfl rfl (zD rfl (zA (zc ?_))))))))
  refine y9 (fun (k : Nat) (s : Value) => [(0, .pointer (some ⟨o, 0, none⟩)), (2, .pointer (some ⟨eb, 0, none⟩)), (3, .pointer (some ⟨cb, 0, none⟩)), (5, .pointer (some ⟨b5, 0, none⟩)), (42, x.ev), (43, Vj x.ents.length), (44, Vj k)]) (fun (k : Nat) (s : Value) => k ≤ x.ents.length) (fun (k : Nat) (s : Value) => [Res.row b5 59 (MsgD.cells x), Res.bv o yW s (bs ++ x.headB ++ xm (x.ents.take k))]) (fun (k : Nat) (s : Value) => x.ents.length - k) (fun w' hw => ⟨0, sl'4_, ⟨rfl, rfl, rfl, rfl, rfl, rfl, rfl, trivial⟩, Nat.zero_le _, by have h := hw.sel [0, 5] rfl (by decide); simpa [MsgD.headB, xm] using h⟩) (fun k s g hΦ => ?_)
  have hle := xK (fun e : EntD => e.enc) x.ents (k + 1)
  have hle2 : (xm (x.ents.take k)).length ≤ (xm x.ents).length := xK (fun e : EntD => e.enc) x.ents k
  have hle3 : (xm x.ents).length ≤ 200000000 := by rw [zDZ]; exact hle0.2.1
  refine zB (yJ rfl rfl rfl (zA (zQ (zf rfl (fun c1 => ?_) (fun c1 => ?_)))))
  ·
   have hew := hx.each _ (zl (l := x.ents) (j := k) (by omega))
   rw [zu (by omega), List.flatMap_append] at hle
   simp only [List.length_append, List.flatMap_cons, List.flatMap_nil, List.append_nil] at hle
   have hcl : (xm (x.ents.take k)).length + (zG x.ents k).enc.length ≤ (xm x.ents).length := hle
   refine zR (zQ (zc (zB (zm (pR rd_x.ev) 5 k rfl rfl rfl (by omega) rfl (kd (pR rd_x.ev) 5 k (off := xF x.ev + k * 5) (fun _ => rfl) rfl rfl (by omega) rfl (yS (v := .agg #[Vn 0, Vn 0, Vi 0, Vi 0, .slice none 0 0]) (by kernel_rfl) rfl (fun b7 => yH 2 rfl rfl rfl (zF rfl (zF rfl (zF rfl (zF rfl (zF (Sl.cell1 (Rd.φ ((rd_x.ev_all _ (zl (by omega))).dv))) zw))))) rfl (zA (zW (zJ (o := 1) rfl rfl (xq (v := .func (.func 167) #[] #[]) rfl (heb.φ.cell rfl) (heb.far _ (by simp [Res.row])) (by kernel_rfl) rfl (zD rfl ?_))))))))))))
   refine yY (cs := (EntD.cells (zG x.ents k))) 2 rfl rfl rfl (yh (fst := []) (cap := []) rfl (by kernel_rfl) rfl rfl (fun w' hw => (zBA o s (bs ++ x.headB ++ xm (x.ents.take k)) (zG x.ents k) w' ‹_› (by first | omega | (simp <;> omega) | (constructor <;> (first | omega | (simp <;> omega)))) (hw.give [1] rfl (by decide)) ((rd_x.ev_all _ (zl (by omega))).at hw [1] rfl)).mono ?_))
   rintro _ w1 ⟨sl'5_, rfl, hO⟩
   refine (?_ : CL _ _ _ _ _ _ (Own w S [Res.row b5 59 (MsgD.cells x), Res.row b7 81 (EntD.cells (zG x.ents k)), Res.bv o yW sl'5_ ((bs ++ x.headB ++ xm (x.ents.take k)) ++ (zG x.ents k).enc)])) w1 (hw.frameL [1] rfl hO)
   refine zA (zW (z3 rfl rfl (zy (by omega)) rfl (zD rfl ?_)))
   exact zj (fun w' hw => ⟨k + 1, sl'5_, ⟨rfl, rfl, rfl, rfl, rfl, rfl, rfl, trivial⟩, (by omega), by rw [zu (by omega)]; have h := hw.sel [0, 2] rfl (by decide); simpa [xm] using h, (by omega)⟩)
  ·
   refine yQ rfl (zB (zJ (o := 1) rfl rfl (xq (v := .func (.func 151) #[] #[]) rfl (hcb.φ.cell rfl) (hcb.far _ (by simp [Res.row])) (by kernel_rfl) rfl (zD rfl (zJ (o := 10) rfl rfl (zAO 0 (ConfD.cells x.conf) rfl rfl (kW 10 rfl) (by kernel_rfl) rfl (yh (fst := []) (cap := []) rfl (by kernel_rfl) rfl rfl (fun w' hw => (jV o s (bs ++ x.headB ++ xm (x.ents.take k)) x.conf w' (by first | omega | (simp <;> omega) | (constructor <;> (first | omega | (simp <;> omega)))) (hw.give [1] rfl (by decide)) (rd_x.conf.at hw [1] rfl)).mono ?_))))))))
   rintro _ w1 ⟨sl'6_, rfl, hO⟩
   refine (?_ : CL _ _ _ _ _ _ (Own w S [Res.row b5 59 (MsgD.cells x), Res.bv o yW sl'6_ ((bs ++ x.headB ++ xm (x.ents.take k)) ++ x.conf.enc)])) w1 (hw.frameL [1] rfl hO)
   refine zA (zB (zD rfl (zJ (o := 12) rfl rfl (zM 0 (v := Vi x.off) rfl rfl rfl rfl (z4 (e := 3) (sz := 1) (vs := [Vi x.off]) (by kernel_rfl) rfl rfl (by simp [Value.cells]) (by decide) rfl (fun b63 => zH rfl rfl (fun w' hw => (zBV o sl'6_ ((bs ++ x.headB ++ xm (x.ents.take k)) ++ x.conf.enc) (.slice (some ⟨b63, 0, none⟩) 1 1) [x.off] w' (by first | omega | (simp <;> omega) | (constructor <;> (first | omega | (simp <;> omega)))) (hw.give [1] rfl (by decide)) (hw.rdVec 2 rfl [1] rfl rfl)).mono ?_)))))))
   rintro _ w1 ⟨sl'7_, rfl, hO⟩
   refine (?_ : CL _ _ _ _ _ _ (Own w S [Res.row b5 59 (MsgD.cells x), Res.vec 3 1 (.slice (some ⟨b63, 0, none⟩) 1 1) [x.off].length ([x.off].flatMap I1), Res.bv o yW sl'7_ (((bs ++ x.headB ++ xm (x.ents.take k)) ++ x.conf.enc) ++ zp ([x.off].map u64))])) w1 (hw.frameL [1] rfl hO)
   refine zA (zW (zD rfl (zJ (o := 13) rfl rfl (zM 0 (v := x.dv) rfl rfl rfl rfl (zCO (e := 36) (vs := [x.dv]) (by kernel_rfl) rfl rfl (zF (Sl.cell1 (Rd.φ rd_x.dv)) zw) (by decide) rfl (fun b68 => zH rfl rfl (fun w' hw => (zED o sl'7_ (((bs ++ x.headB ++ xm (x.ents.take k)) ++ x.conf.enc) ++ zp ([x.off].map u64)) (.slice (some ⟨b68, 0, none⟩) 1 1) [(x.dv, x.data)] w' (by simp [y4]; omega) (by show 1 ≤ _; omega) (hw.give [2] rfl (by decide)) (hw.rdVec 3 rfl [2] rfl rfl) (all_cons (hw.rdTo rd_x.dv [2] rfl) (fun p hp => by cases hp))).mono ?_)))))))
   rintro _ w1 ⟨sl'8_, rfl, hO⟩
   refine (?_ : CL _ _ _ _ _ _ (Own w S [Res.row b5 59 (MsgD.cells x), Res.vec 3 1 (.slice (some ⟨b63, 0, none⟩) 1 1) [x.off].length ([x.off].flatMap I1), Res.vec 36 1 (.slice (some ⟨b68, 0, none⟩) 1 1) [(x.dv, x.data)].length ([(x.dv, x.data)].flatMap pv), Res.bv o yW sl'8_ ((((bs ++ x.headB ++ xm (x.ents.take k)) ++ x.conf.enc) ++ zp ([x.off].map u64)) ++ y4 [(x.dv, x.data)])])) w1 (hw.frameL [2] rfl hO)
   exact zj (yM rfl (fun w' hw => ⟨sl'8_, rfl, by have h := hw.one 3 rfl; rw [List.take_of_length_le (by omega)] at h; rw [x.enc_eq hx]; simpa [y4] using h⟩))
theorem zJE (w : World) : Rets Tryz.prog 81 #[] w fun u_ w' => ∃ (nb : Nat) (cb : Nat) (eb : Nat), u_ = .agg #[.func (.func 126) #[] #[.pointer (some ⟨nb, 0, none⟩), .pointer (some ⟨cb, 0, none⟩), .pointer (some ⟨eb, 0, none⟩)], .func (.func 129) #[] #[.pointer (some ⟨eb, 0, none⟩), .pointer (some ⟨cb, 0, none⟩)], .func (.func 132) #[] #[.pointer (some ⟨eb, 0, none⟩), .pointer (some ⟨cb, 0, none⟩)]] ∧ Own w [] [Res.row nb 172 [.func (.func 125) #[] #[]], Res.row cb 193 [.func (.func 147) #[] #[], .func (.func 151) #[] #[], .func (.func 153) #[] #[]], Res.row eb 218 [.func (.func 166) #[] #[], .func (.func 167) #[] #[], .func (.func 168) #[] #[]]] w' := by
  refine zT Tryz.func81 rfl Tryz.ntmps81 (Own.start w) ?_
  refine zB (yS (v := .agg #[.nilFunc, .nilFunc, .nilFunc]) (by kernel_rfl) rfl (fun b0 => zA (zB (zH rfl rfl (fun w' hw => (zA1 w').mono ?_)))))
  rintro _ w1 ⟨rfl, hO⟩
  refine (?_ : CL _ _ _ _ _ _ (Own w [] [Res.row b0 169 [.nilFunc, .nilFunc, .nilFunc]])) w1 (hw.frame0 hO)
  refine zH rfl rfl (fun w' hw => (zCH w').mono ?_)
  rintro _ w1 ⟨rfl, hO⟩
  refine (?_ : CL _ _ _ _ _ _ (Own w [] [Res.row b0 169 [.nilFunc, .nilFunc, .nilFunc]])) w1 (hw.frame0 hO)
  refine yS (v := .agg #[.nilFunc, .nilFunc, .nilFunc]) (by kernel_rfl) rfl (fun b1 => yS (v := .agg #[.nilFunc, .nilFunc, .nilFunc]) (by kernel_rfl) rfl (fun b2 => yH 1 rfl rfl rfl (xx rfl) rfl (yH 2 rfl rfl rfl (xx rfl) rfl (zA (zB (yS (v := .nilFunc) (by kernel_rfl) rfl (fun b3 => zo (cs := [.nilFunc]) 3 rfl rfl rfl rfl rfl (zA (zB (zAs (va := []) (vb := [.pointer (some ⟨b3, 0, none⟩), .pointer (some ⟨b1, 0, none⟩), .pointer (some ⟨b2, 0, none⟩)]) rfl rfl rfl (zAs (va := []) (vb := [.pointer (some ⟨b2, 0, none⟩), .pointer (some ⟨b1, 0, none⟩)]) rfl rfl rfl (zAs (va := []) (vb := [.pointer (some ⟨b2, 0, none⟩), .pointer (some ⟨b1, 0, none⟩)]) rfl rfl rfl ?_))))))))))))
  refine yc (cs := [.func (.func 126) #[] #[.pointer (some ⟨b3, 0, none⟩), .pointer (some ⟨b1, 0, none⟩), .pointer (some ⟨b2, 0, none⟩)], .func (.func 129) #[] #[.pointer (some ⟨b2, 0, none⟩), .pointer (some ⟨b1, 0, none⟩)], .func (.func 132) #[] #[.pointer (some ⟨b2, 0, none⟩), .pointer (some ⟨b1, 0, none⟩)]]) (z := [.nilFunc, .nilFunc, .nilFunc]) (pl := [(0, 1), (1, 1), (2, 1)]) (by kernel_rfl) (by kernel_rfl) rfl (yH 0 rfl rfl rfl (xx rfl) rfl (zA ?_))
  exact zY (jt (cs := [.func (.func 126) #[] #[.pointer (some ⟨b3, 0, none⟩), .pointer (some ⟨b1, 0, none⟩), .pointer (some ⟨b2, 0, none⟩)], .func (.func 129) #[] #[.pointer (some ⟨b2, 0, none⟩), .pointer (some ⟨b1, 0, none⟩)], .func (.func 132) #[] #[.pointer (some ⟨b2, 0, none⟩), .pointer (some ⟨b1, 0, none⟩)]]) rfl rfl (by kernel_rfl) (Own.rowCells (i := 0) rfl) (fun w' hw => ⟨b3, b1, b2, rfl, hw.sel [3, 1, 2] rfl (by decide)⟩))
theorem zD8 (x : MsgD) (nb : Nat) (cb : Nat) (eb : Nat) (w : World) (hx : x.wf) (hnb : Rd w [] (Res.row nb 172 [.func (.func 125) #[] #[]])) (hcb : Rd w [] (Res.row cb 193 [.func (.func 147) #[] #[], .func (.func 151) #[] #[], .func (.func 153) #[] #[]])) (heb : Rd w [] (Res.row eb 218 [.func (.func 166) #[] #[], .func (.func 167) #[] #[], .func (.func 168) #[] #[]])) (rd_x : MsgD.rd x w []) : Rets Tryz.prog 82 #[.agg #[.func (.func 126) #[] #[.pointer (some ⟨nb, 0, none⟩), .pointer (some ⟨cb, 0, none⟩), .pointer (some ⟨eb, 0, none⟩)], .func (.func 129) #[] #[.pointer (some ⟨eb, 0, none⟩), .pointer (some ⟨cb, 0, none⟩)], .func (.func 132) #[] #[.pointer (some ⟨eb, 0, none⟩), .pointer (some ⟨cb, 0, none⟩)]], .agg (MsgD.cells x).toArray] w fun u_ w' => ∃ (r : Value), u_ = .tuple #[r, Vi (yC x.a.ok)] ∧ Own w [] [Res.vec 5 1 r (if x.a.ok then x.a.enc else []).length ((if x.a.ok then x.a.enc else []).map vb)] w' := by
  refine zT Tryz.func82 rfl Tryz.ntmps82 (Own.start w) ?_
  refine zB (z7 rfl rfl (fun b2 => z7 rfl rfl (fun b3 => zK rfl (zK rfl (zA (zQ (zB (zJ (o := 0) rfl rfl (zM 0 (v := .func (.func 126) #[] #[.pointer (some ⟨nb, 0, none⟩), .pointer (some ⟨cb, 0, none⟩), .pointer (some ⟨eb, 0, none⟩)]) rfl rfl rfl rfl (yY (cs := (MsgD.cells x)) 1 rfl rfl rfl (yh (fst := []) (cap := [.pointer (some ⟨nb, 0, none⟩), .pointer (some ⟨cb, 0, none⟩), .pointer (some ⟨eb, 0, none⟩)]) rfl (by kernel_rfl) rfl rfl (fun w' hw => (zEJ x nb cb eb w' ‹_› (hw.rd0 hnb) (hw.rd0 hcb) (hw.rd0 heb) (rd_x.at0 hw)).mono ?_))))))))))))
  rintro _ w1 ⟨rfl, hO⟩
  refine (?_ : CL _ _ _ _ _ _ (Own w [] [Res.row b2 169 [.func (.func 126) #[] #[.pointer (some ⟨nb, 0, none⟩), .pointer (some ⟨cb, 0, none⟩), .pointer (some ⟨eb, 0, none⟩)], .func (.func 129) #[] #[.pointer (some ⟨eb, 0, none⟩), .pointer (some ⟨cb, 0, none⟩)], .func (.func 132) #[] #[.pointer (some ⟨eb, 0, none⟩), .pointer (some ⟨cb, 0, none⟩)]], Res.row b3 59 (MsgD.cells x)])) w1 (hw.frame0 hO)
  refine xM (q := x.a.ok) rfl rfl (zA (zf rfl (fun c1 => ?_) (fun c1 => ?_)))
  ·
   refine zB (zK rfl (zK rfl (zA ?_)))
   exact zY (xP (v := .slice none 0 0) (v' := Vi 2) rfl rfl rfl (fun w' hw => ⟨.slice none 0 0, (by rw [jX c1]), by rw [if_neg c1]; exact (zt hw T8 1).one 2 rfl⟩))
  ·
   refine zR (zB (yc (cs := [.slice none 0 0]) (z := [.slice none 0 0]) (pl := [(0, 1)]) (by kernel_rfl) (by kernel_rfl) rfl (z7 rfl rfl (fun b13 => zK rfl (zA (zB (zJ (o := 1) rfl rfl (zM 0 (v := .func (.func 129) #[] #[.pointer (some ⟨eb, 0, none⟩), .pointer (some ⟨cb, 0, none⟩)]) rfl rfl rfl rfl (zD rfl (yY (cs := (MsgD.cells x)) 1 rfl rfl rfl ?_))))))))))
   refine zx [Res.row b2 169 [.func (.func 126) #[] #[.pointer (some ⟨nb, 0, none⟩), .pointer (some ⟨cb, 0, none⟩), .pointer (some ⟨eb, 0, none⟩)], .func (.func 129) #[] #[.pointer (some ⟨eb, 0, none⟩), .pointer (some ⟨cb, 0, none⟩)], .func (.func 132) #[] #[.pointer (some ⟨eb, 0, none⟩), .pointer (some ⟨cb, 0, none⟩)]], Res.row b3 59 (MsgD.cells x), Res.bv b13 yW (.slice none 0 0) ([] : List UInt8)] (fun w' hw => (zt hw T8 1).joinBv (i := 2) (j := 3) (by decide) rfl rfl) ?_
   refine yh (fst := []) (cap := [.pointer (some ⟨eb, 0, none⟩), .pointer (some ⟨cb, 0, none⟩)]) rfl (by kernel_rfl) rfl rfl (fun w' hw => (zDy b13 (.slice none 0 0) ([] : List UInt8) x eb cb w' ‹_› (by first | omega | (simp <;> omega) | (constructor <;> (first | omega | (simp <;> omega)))) (hw.give [2] rfl (by decide)) (hw.rdTo heb [2] rfl) (hw.rdTo hcb [2] rfl) (rd_x.at hw [2] rfl)).mono ?_)
   rintro _ w1 ⟨sl'1_, rfl, hO⟩
   refine (?_ : CL _ _ _ _ _ _ (Own w [] [Res.row b2 169 [.func (.func 126) #[] #[.pointer (some ⟨nb, 0, none⟩), .pointer (some ⟨cb, 0, none⟩), .pointer (some ⟨eb, 0, none⟩)], .func (.func 129) #[] #[.pointer (some ⟨eb, 0, none⟩), .pointer (some ⟨cb, 0, none⟩)], .func (.func 132) #[] #[.pointer (some ⟨eb, 0, none⟩), .pointer (some ⟨cb, 0, none⟩)]], Res.row b3 59 (MsgD.cells x), Res.bv b13 yW sl'1_ (([] : List UInt8) ++ x.a.enc)])) w1 (hw.frameL [2] rfl hO)
   refine zA (zB (zD rfl (zh rfl rfl (zJ (o := 0) rfl rfl ?_))))
   refine zx [Res.row b2 169 [.func (.func 126) #[] #[.pointer (some ⟨nb, 0, none⟩), .pointer (some ⟨cb, 0, none⟩), .pointer (some ⟨eb, 0, none⟩)], .func (.func 129) #[] #[.pointer (some ⟨eb, 0, none⟩), .pointer (some ⟨cb, 0, none⟩)], .func (.func 132) #[] #[.pointer (some ⟨eb, 0, none⟩), .pointer (some ⟨cb, 0, none⟩)]], Res.row b3 59 (MsgD.cells x), Res.row b13 yW [sl'1_], Res.vec 5 1 sl'1_ (([] : List UInt8) ++ x.a.enc).length ((([] : List UInt8) ++ x.a.enc).map vb)] (fun w' hw => hw.splitBv (i := 2) (o := b13) (T := yW) (v := sl'1_) (bs := (([] : List UInt8) ++ x.a.enc)) rfl) ?_
   refine zM 2 (v := sl'1_) rfl rfl rfl rfl (zK rfl (zK rfl (zA ?_)))
   exact zY (xP (v := sl'1_) (v' := Vi 0) rfl rfl rfl (fun w' hw => ⟨sl'1_, (by rw [jD (Decidable.not_not.1 c1)]), by rw [if_pos (Decidable.not_not.1 c1)]; exact hw.one 3 rfl⟩))
theorem zGT (x : MsgD) (w : World) (hx : x.wf) (rd_x : MsgD.rd x w []) : Rets Tryz.prog 47 #[.agg (MsgD.cells x).toArray] w fun u_ w' => ∃ (r : Value), u_ = .tuple #[r, Vi (yC x.a.ok)] ∧ Own w [] [Res.vec 5 1 r (if x.a.ok then x.a.enc else []).length ((if x.a.ok then x.a.enc else []).map vb)] w' := by
  refine zT Tryz.func47 rfl Tryz.ntmps47 (Own.start w) ?_
  refine zB (z7 rfl rfl (fun b1 => zK rfl (zK rfl (zA (zQ (zk [0] rfl (by decide) (by kernel_rfl) (fun w' hw hS => zC 1 rfl (xp (cs := (MsgD.cells x)) 0 rfl rfl) hS (zN 0 rfl hw (zH rfl rfl (fun w' hw => (zJE w').mono ?_))))))))))
  rintro _ w1 ⟨nb1_, cb2_, eb3_, rfl, hO⟩
  refine (?_ : CL _ _ _ _ _ _ (Own w [] [Res.row b1 59 (MsgD.cells x), Res.row nb1_ 172 [.func (.func 125) #[] #[]], Res.row cb2_ 193 [.func (.func 147) #[] #[], .func (.func 151) #[] #[], .func (.func 153) #[] #[]], Res.row eb3_ 218 [.func (.func 166) #[] #[], .func (.func 167) #[] #[], .func (.func 168) #[] #[]]])) w1 (hw.frame0 hO)
  refine zE [0] rfl (by decide) (fun w' hw hS => zN 2 rfl hw (zH rfl rfl (fun w' hw => (zD8 x nb1_ cb2_ eb3_ w' ‹_› (hw.rdRes0 1 rfl) (hw.rdRes0 2 rfl) (hw.rdRes0 3 rfl) (rd_x.at0 hw)).mono ?_)))
  rintro _ w1 ⟨r4_, rfl, hO⟩
  refine (?_ : CL _ _ _ _ _ _ (Own w [] [Res.row b1 59 (MsgD.cells x), Res.row nb1_ 172 [.func (.func 125) #[] #[]], Res.row cb2_ 193 [.func (.func 147) #[] #[], .func (.func 151) #[] #[], .func (.func 153) #[] #[]], Res.row eb3_ 218 [.func (.func 166) #[] #[], .func (.func 167) #[] #[], .func (.func 168) #[] #[]], Res.vec 5 1 r4_ (if x.a.ok then x.a.enc else []).length ((if x.a.ok then x.a.enc else []).map vb)])) w1 (hw.frame0 hO)
  refine zE [0] rfl (by decide) (fun w' hw hS => zC 3 rfl (yx (vs := [r4_, Vi (yC x.a.ok)]) rfl rfl) hS (zC 4 rfl (yx (vs := [r4_, Vi (yC x.a.ok)]) rfl rfl) hS (zC 5 rfl (ya) hS (zC 6 rfl (ya) hS (zX ?_)))))
  refine (?_ : C _ _ _ _ _ _ _ (Own w [] [Res.row b1 59 (MsgD.cells x), Res.row nb1_ 172 [.func (.func 125) #[] #[]], Res.row cb2_ 193 [.func (.func 147) #[] #[], .func (.func 151) #[] #[], .func (.func 153) #[] #[]], Res.row eb3_ 218 [.func (.func 166) #[] #[], .func (.func 167) #[] #[], .func (.func 168) #[] #[]], Res.vec 5 1 r4_ (if x.a.ok then x.a.enc else []).length ((if x.a.ok then x.a.enc else []).map vb)])) _ hw
  exact zY (xP (v := r4_) (v' := Vi (yC x.a.ok)) rfl rfl rfl (fun w' hw => ⟨r4_, rfl, hw.sel [4] rfl (by decide)⟩))
end Go.Proofs.YtkkeknmkipkbmaaGreat
