/-
  MESSAGES WRITTEN: the program's and the reference's.
-/
import Derived.Test.YtlkoekhjegaimaaGreatEnc2
set_option linter.unusedVariables false
set_option maxRecDepth 10000
namespace Go.Proofs.YtlkoekhjegaimaaGreat
open Go Go.Sc Go.Proofs

structure MsgA where
  kind : Int
  src : Int
  dst : Int
  term : Nat
  index : Nat
  logTerm : Nat
  commit : Nat
  round : Nat
  flag : Bool
  ents : List EntA
  conf : ConfA
  off : Int
  data : List UInt8
  deriving DecidableEq
structure MsgD where
  kind : Int
  src : Int
  dst : Int
  term : Nat
  index : Nat
  logTerm : Nat
  commit : Nat
  round : Nat
  flag : Bool
  ev : Value
  ents : List EntD
  conf : ConfD
  off : Int
  dv : Value
  data : List UInt8
def MsgD.a (x : MsgD) : MsgA := ⟨x.kind, x.src, x.dst, x.term, x.index, x.logTerm, x.commit, x.round, x.flag, x.ents.map EntD.toEntA, x.conf.a, x.off, x.data⟩
structure MsgD.wf (x : MsgD) : Prop where
  term : x.term < 18446744073709551616
  index : x.index < 18446744073709551616
  logTerm : x.logTerm < 18446744073709551616
  commit : x.commit < 18446744073709551616
  round : x.round < 18446744073709551616
  ents : x.ents.length ≤ 1048576
  each : ∀ e ∈ x.ents, e.wf
  conf : x.conf.few
  fewer : x.conf.vs.length ≤ 1048576 ∧ x.conf.ls.length ≤ 1048576
  data : x.data.length ≤ 1000000000
  all : (x.ents.map fun e => e.data.length).sum ≤ 100000000
def MsgD.cells (x : MsgD) : List Value := [.int .i64 x.kind, .int .i64 x.src, .int .i64 x.dst, .int .u64 x.term, .int .u64 x.index, .int .u64 x.logTerm, .int .u64 x.commit, .int .u64 x.round, .bool x.flag, x.ev] ++ (x.conf.cells ++ [.int .i64 x.off, x.dv])
structure MsgD.rd (x : MsgD) (w : World) (S : List Nat) : Prop where
  ev : Rd w S (Res.sl x.ev x.ents.length (x.ents.flatMap EntD.cells))
  ev_all : ∀ p ∈ x.ents, EntD.rd p w S
  conf : x.conf.rd w S
  dv : Rd w S (Res.sl x.dv x.data.length (x.data.map vb))
theorem MsgD.rd.at0 {x : MsgD} {w0 w : World} {S : List Nat} {L : List Res} (h : x.rd w0 S) (hw : Own w0 S L w) : x.rd w [] := ⟨hw.rd0 h.ev, fun p hp => (h.ev_all p hp).at0 hw, h.conf.at0 hw, hw.rd0 h.dv⟩
theorem MsgD.rd.at {x : MsgD} {w0 w : World} {S : List Nat} {L Lin : List Res} (h : x.rd w0 S) (hw : Own w0 S L w) (m : List Nat) (hm : m.mapM (fun i => L[i]?) = some Lin) : x.rd w (fps Lin) := ⟨hw.rdTo h.ev m hm, fun p hp => (h.ev_all p hp).at hw m hm, h.conf.at hw m hm, hw.rdTo h.dv m hm⟩
def MsgA.head (x : MsgA) : Prop := ((1 ≤ x.kind ∧ x.kind ≤ 9) ∧ (1 ≤ x.src ∧ x.src ≤ 16) ∧ (1 ≤ x.dst ∧ x.dst ≤ 16) ∧ (0 ≤ x.off ∧ x.off ≤ 65536) ∧ x.data.length ≤ 256 ∧ x.ents.length ≤ 8) ∧ (if x.kind = 7 then x.conf.ok else x.conf.vs.length = 0 ∧ x.conf.ls.length = 0)
instance (x : MsgA) : Decidable x.head := by unfold MsgA.head; infer_instance
def MsgA.ok (x : MsgA) : Prop := x.head ∧ ∀ e ∈ x.ents, e.ok
theorem MsgD.ok_iff {x : MsgD} : x.a.ok ↔ x.a.head ∧ ∀ e ∈ x.ents, e.ok := by simp [MsgA.ok, MsgD.a]
theorem MsgD.head_iff {x : MsgD} : x.a.head ↔ ((1 ≤ x.kind ∧ x.kind ≤ 9) ∧ (1 ≤ x.src ∧ x.src ≤ 16) ∧ (1 ≤ x.dst ∧ x.dst ≤ 16) ∧ (0 ≤ x.off ∧ x.off ≤ 65536) ∧ x.data.length ≤ 256 ∧ x.ents.length ≤ 8) ∧ (if x.kind = 7 then x.conf.ok else x.conf.vs.length = 0 ∧ x.conf.ls.length = 0) := by
  unfold MsgA.head MsgD.a; simp only [List.length_map]; exact Iff.rfl
instance (x : MsgA) : Decidable x.ok := by unfold MsgA.ok; infer_instance
def entsB (es : List EntA) : List UInt8 := es.flatMap EntA.enc
def MsgA.enc (x : MsgA) : List UInt8 := numsB [u64 x.kind, u64 x.src, u64 x.dst] ++ numsB [x.term, x.index, x.logTerm, x.commit, x.round] ++ numsB [fl x.flag] ++ numsB [x.ents.length] ++ entsB x.ents ++ x.conf.enc ++ numsB [u64 x.off] ++ dat x.data
theorem entsB_le {es : List EntD} (h : ∀ e ∈ es, e.wf) : (entsB (es.map EntD.toEntA)).length ≤ (es.map fun e => e.data.length).sum + 60 * es.length := by
  induction es with
  | nil => simp [entsB]
  | cons e es ih =>
    have h1 := EntA.enc_le (h e (by simp))
    have h2 := ih fun x hx => h x (by simp [hx])
    simp only [entsB, List.map_cons, List.flatMap_cons, List.length_append, List.sum_cons, List.length_cons] at *
    omega
theorem MsgD.enc_le {x : MsgD} (h : x.wf) : x.a.enc.length ≤ 10000000000 ∧ (entsB (x.ents.map EntD.toEntA)).length ≤ 200000000 ∧ x.conf.enc.length ≤ 90000000 := by
  have h1 := numsB_length (ns := [u64 x.kind, u64 x.src, u64 x.dst]) (by simp [u64_lt])
  have h2 := numsB_length (ns := [x.term, x.index, x.logTerm, x.commit, x.round]) (by have := h.term; have := h.index; have := h.logTerm; have := h.commit; have := h.round; simp [*])
  have h3 := numsB_length (ns := [fl x.flag]) (by simp [fl_lt])
  have h4 := numsB_length (ns := [x.ents.length]) (by have := h.ents; simp; omega)
  have h5 := numsB_length (ns := [u64 x.off]) (by simp [u64_lt])
  have h6 := dat_length x.data (by have := h.data; omega)
  have h7 := entsB_le h.each
  have h8 : x.conf.enc.length ≤ _ := x.conf.enc_le
  have h9 := h.fewer.1
  have h10 := h.fewer.2
  have h11 := h.data
  have h12 := h.ents
  have h13 := h.all
  have e : x.a.enc.length = (numsB [u64 x.kind, u64 x.src, u64 x.dst]).length + (numsB [x.term, x.index, x.logTerm, x.commit, x.round]).length + (numsB [fl x.flag]).length + (numsB [x.ents.length]).length + (entsB (x.ents.map EntD.toEntA)).length + x.conf.enc.length + (numsB [u64 x.off]).length + (dat x.data).length := by
    simp only [MsgA.enc, MsgD.a, ConfD.enc, ConfA.enc, ConfD.a, List.length_append, List.length_map]
  simp only [List.length_cons, List.length_nil] at *
  omega

-- no function scupper/scupperref03.OwnMsg

theorem msgEnd_s (n : Int) (w : World) : Rets Tryz.prog 45 #[.int .i64 n] w fun u_ w' => u_ = .bool (decide (1 ≤ n ∧ n ≤ 16)) ∧ Own w [] [] w' := by
  refine fn_enter (args := [.int .i64 n]) Tryz.func45 rfl Tryz.ntmps45 rfl (Own.start w) ?_
  refine c_reg ?_
  refine l_as rfl ?_
  refine l_end ?_
  refine c_reg ?_
  refine l_mv rfl ?_
  refine l_geq rfl rfl rfl ?_
  refine l_mv rfl ?_
  refine l_band (q := 1 ≤ n) 2 2 [7, 6] (n ≤ 16) rfl rfl rfl rfl rfl rfl trivial rfl (fun h1_2 => ?_) (fun g1_5 => ?_)
  ·
    refine l_on rfl (gT h1_2) ?_
    refine l_mv rfl ?_
    refine l_on rfl (gT h1_2) ?_
    refine l_leq rfl rfl rfl ?_
    exact l_nil (fun w' hw => ⟨(by repeat (first | exact Out.refl _ _ | refine Out.upd rfl ?_ | refine Out.msk rfl ?_)), rfl, hw⟩)
  refine l_as rfl ?_
  refine l_end ?_
  exact c_ret (ret1 (v := .bool (decide ((1 ≤ n) ∧ (n ≤ 16)))) rfl rfl (fun w' hw => ⟨rfl, hw.drop⟩))
theorem msgBad_s (x : EntD) (eb : Nat) (w : World) (hx : x.wf) (heb : Rd w [] (Res.row eb 121 [.func (.func 89) #[] #[], .func (.func 91) #[] #[], .func (.func 92) #[] #[]])) (rd_x : EntD.rd x w []) : Rets Tryz.prog 48 #[.agg (EntD.cells x).toArray, .pointer (some ⟨eb, 0, none⟩)] w fun u_ w' => u_ = .bool (decide (¬ x.ok)) ∧ Own w [] [] w' := by
  refine fn_enter (args := [.agg (EntD.cells x).toArray, .pointer (some ⟨eb, 0, none⟩)]) Tryz.func48 rfl Tryz.ntmps48 rfl (Own.start w) ?_
  refine c_reg ?_
  refine l_box rfl rfl (fun b2 => ?_)
  refine l_as rfl ?_
  refine l_end ?_
  refine c_reg ?_
  refine l_fld (o := 0) rfl (by kernel_rfl) rfl ?_
  refine l_ldq (v := .func (.func 89) #[] #[]) rfl (heb.φ.cell rfl) (heb.far _ (by simp [Res.row])) (by kernel_rfl) rfl ?_
  refine l_ldr (cs := (EntD.cells x)) 0 rfl rfl (by kernel_rfl) rfl ?_
  refine l_callv (fst := []) (cap := []) rfl (by kernel_rfl) rfl rfl (fun w' hw => ?_)
  refine (entSound_s x w' (by first | assumption | omega | (simp <;> omega) | (constructor <;> (first | omega | (simp only [LenOk]; omega) | (simp <;> omega)))) (rd_x.at0 hw)).mono ?_
  rintro _ w1 ⟨rfl, hO⟩
  refine (?_ : CL _ _ _ _ _ _ (Own w [] [Res.row b2 75 (EntD.cells x)])) w1 (hw.frame0 hO)
  refine l_notp (q := x.ok) rfl rfl ?_
  refine l_as rfl ?_
  refine l_end ?_
  exact c_ret (ret1 (v := .bool (decide (¬ x.ok))) rfl rfl (fun w' hw => ⟨rfl, hw.drop⟩))
theorem idxBad_s (v : Value) (l : List EntD) (eb : Nat) (w : World) (hl : LenOk l.length) (hx : ∀ e ∈ l, e.wf) (heb : Rd w [] (Res.row eb 121 [.func (.func 89) #[] #[], .func (.func 91) #[] #[], .func (.func 92) #[] #[]])) (hv : Rd w [] (Res.sl v l.length (l.flatMap EntD.cells))) (all_hv : ∀ p ∈ l, EntD.rd p w []) : Rets Tryz.prog 93 #[v, .func (.func 48) #[] #[.pointer (some ⟨eb, 0, none⟩)]] w fun u_ w' => ∃ (i : Int), u_ = .int .i64 i ∧ (0 ≤ i ↔ ∃ q ∈ l, ¬ q.ok) ∧ Own w [] [] w' := by
  refine fn_enter (args := [v, .func (.func 48) #[] #[.pointer (some ⟨eb, 0, none⟩)]]) Tryz.func93 rfl Tryz.ntmps93 rfl (Own.start w) ?_
  refine c_reg ?_
  refine l_as rfl ?_
  refine l_end ?_
  refine c_seq ?_
  refine c_reg ?_
  refine l_mv rfl ?_
  refine l_lenS (len := l.length) (cs := (l.flatMap EntD.cells)) (by kernel_rfl) rfl (fun w' hw' => Own.rd hv hw') rfl ?_
  refine l_mv rfl ?_
  refine l_end ?_
  refine c_block ?_
  refine c_loop1 (fun (k : Nat) => [(0, v), (1, .func (.func 48) #[] #[.pointer (some ⟨eb, 0, none⟩)]), (7, .int .i64 (l.length : Nat)), (8, .int .i64 (k : Nat))]) (fun (k : Nat) => k ≤ l.length ∧ ∀ e ∈ l.take k, e.ok) (fun (k : Nat) => []) (fun (k : Nat) => l.length - k) (fun w' hw => ⟨0, ⟨rfl, rfl, rfl, rfl, trivial⟩, ⟨Nat.zero_le _, by simp⟩, hw⟩) (fun k g hΦ => ?_)
  refine c_reg ?_
  refine l_lss rfl rfl rfl ?_
  refine l_end ?_
  refine c_seq ?_
  refine c_dec rfl (fun c1 => ?_) (fun c1 => ?_)
  ·
    refine c_skipC ?_
    refine c_seq ?_
    refine c_block ?_
    refine c_reg ?_
    refine l_mv rfl ?_
    refine l_as rfl ?_
    refine l_end ?_
    refine c_reg ?_
    refine l_mv rfl ?_
    refine l_mv rfl ?_
    refine l_mv rfl ?_
    refine l_idxS (j := k) (sz := 5) (len := l.length) (cs := (l.flatMap EntD.cells)) rfl rfl (by kernel_rfl) (fun w' hw' => Own.rd hv hw') rfl (by omega) rfl ?_
    refine l_ldSN (v := v) (off := offV v + k * 5) (k * 5 + 0) (cs := (l.flatMap EntD.cells)) (EntD.cells (nth l k)) rfl (by omega) (fun w' hw' => Own.rd hv hw') (flat_atN (sz := 5) (fun _ => rfl) (nth_some (by omega)) (o := 0) (us := (EntD.cells (nth l k))) (fun k u h => by rw [Nat.zero_add]; exact h)) (by kernel_rfl) rfl ?_
    refine l_callv (fst := []) (cap := [.pointer (some ⟨eb, 0, none⟩)]) rfl (by kernel_rfl) rfl rfl (fun w' hw => ?_)
    refine (msgBad_s (nth l k) eb w' (hx _ (nth_mem (by omega))) (hw.rd0 heb) ((all_hv _ (nth_mem (by omega))).at0 hw)).mono ?_
    rintro _ w1 ⟨rfl, hO⟩
    refine (?_ : CL _ _ _ _ _ _ (Own w [] [])) w1 (hw.frame0 hO)
    refine l_end ?_
    refine c_dec rfl (fun c2 => ?_) (fun c2 => ?_)
    ·
      refine c_reg ?_
      refine l_mv rfl ?_
      refine l_as rfl ?_
      refine l_end ?_
      exact c_ret (ret1 (v := .int .i64 (k : Nat)) rfl rfl (fun w' hw => ⟨k, rfl, ⟨fun _ => ⟨_, nth_mem (by omega), c2⟩, fun _ => by omega⟩, hw.drop⟩))
    ·
      refine c_skipC ?_
      refine c_last ?_
      refine l_add rfl rfl (wi64 (by omega)) rfl ?_
      refine l_mv rfl ?_
      exact l_nil (fun w' hw => ⟨k + 1, ⟨rfl, rfl, rfl, rfl, trivial⟩, ⟨by omega, by rw [take_nth (by omega)]; intro v hv; rcases List.mem_append.1 hv with h | h; exact hΦ.2 v h; simp at h; rw [h]; exact Decidable.not_not.1 c2⟩, hw, (by omega)⟩)
  ·
    refine c_exitC rfl ?_
    refine c_reg ?_
    refine l_as rfl ?_
    refine l_end ?_
    exact c_ret (ret1 (v := .int .i64 (-1)) rfl rfl (fun w' hw => ⟨-1, rfl, ⟨fun h => by omega, fun ⟨v, h, h'⟩ => by have h2 := hΦ.2; rw [List.take_of_length_le (by omega)] at h2; exact absurd (h2 v h) h'⟩, hw.drop⟩))
theorem hasBad_s (v : Value) (l : List EntD) (eb : Nat) (w : World) (hl : LenOk l.length) (hx : ∀ e ∈ l, e.wf) (heb : Rd w [] (Res.row eb 121 [.func (.func 89) #[] #[], .func (.func 91) #[] #[], .func (.func 92) #[] #[]])) (hv : Rd w [] (Res.sl v l.length (l.flatMap EntD.cells))) (all_hv : ∀ p ∈ l, EntD.rd p w []) : Rets Tryz.prog 47 #[v, .func (.func 48) #[] #[.pointer (some ⟨eb, 0, none⟩)]] w fun u_ w' => u_ = .bool (decide (∃ q ∈ l, ¬ q.ok)) ∧ Own w [] [] w' := by
  refine fn_enter (args := [v, .func (.func 48) #[] #[.pointer (some ⟨eb, 0, none⟩)]]) Tryz.func47 rfl Tryz.ntmps47 rfl (Own.start w) ?_
  refine c_reg ?_
  refine l_as rfl ?_
  refine l_end ?_
  refine c_reg ?_
  refine l_mv rfl ?_
  refine l_mv rfl ?_
  refine l_call (by kernel_rfl) rfl rfl (fun w' hw => ?_)
  refine (idxBad_s v l eb w' (by first | assumption | omega | (simp <;> omega) | (constructor <;> (first | omega | (simp only [LenOk]; omega) | (simp <;> omega)))) (by first | assumption | omega | (simp <;> omega) | (constructor <;> (first | omega | (simp only [LenOk]; omega) | (simp <;> omega)))) (hw.rd0 heb) (hw.rd0 hv) (fun p hp => EntD.rd.at0 (all_hv p hp) hw)).mono ?_
  rintro _ w1 ⟨i1_, rfl, hf1_2, hO⟩
  refine (?_ : CL _ _ _ _ _ _ (Own w [] [])) w1 (hw.frame0 hO)
  refine l_geq rfl rfl rfl ?_
  refine l_as rfl ?_
  refine l_end ?_
  exact c_ret (ret1 (v := .bool (decide (0 ≤ i1_))) rfl rfl (fun w' hw => ⟨(by congr 1; exact decide_eq_decide.2 (by omega)), hw.drop⟩))
theorem msgSound_s (x : MsgD) (nb : Nat) (cb : Nat) (eb : Nat) (w : World) (hx : x.wf) (hnb : Rd w [] (Res.row nb 123 [.func (.func 45) #[] #[]])) (hcb : Rd w [] (Res.row cb 115 [.func (.func 80) #[] #[], .func (.func 85) #[] #[], .func (.func 87) #[] #[]])) (heb : Rd w [] (Res.row eb 121 [.func (.func 89) #[] #[], .func (.func 91) #[] #[], .func (.func 92) #[] #[]])) (rd_x : MsgD.rd x w []) : Rets Tryz.prog 46 #[.agg (MsgD.cells x).toArray, .pointer (some ⟨nb, 0, none⟩), .pointer (some ⟨cb, 0, none⟩), .pointer (some ⟨eb, 0, none⟩)] w fun u_ w' => u_ = .bool (decide x.a.ok) ∧ Own w [] [] w' := by
  have hd := hx.data
  have hf := hx.conf
  have hc := hx.conf.wf
  have hv := hc.vs
  have hl := hc.ls
  have he := hx.ents
  refine fn_enter (args := [.agg (MsgD.cells x).toArray, .pointer (some ⟨nb, 0, none⟩), .pointer (some ⟨cb, 0, none⟩), .pointer (some ⟨eb, 0, none⟩)]) Tryz.func46 rfl Tryz.ntmps46 rfl (Own.start w) ?_
  refine c_reg ?_
  refine l_box rfl rfl (fun b4 => ?_)
  refine l_as rfl ?_
  refine l_end ?_
  refine c_seq ?_
  refine c_reg ?_
  refine l_fld (o := 0) rfl (by kernel_rfl) rfl ?_
  refine l_ldo 0 (v := .int .i64 x.kind) rfl rfl rfl (by kernel_rfl) rfl ?_
  refine l_lss rfl rfl rfl ?_
  refine l_mv rfl ?_
  refine l_bor (q := x.kind < 1) 3 3 [12, 11, 10] (9 < x.kind) rfl rfl rfl rfl rfl rfl trivial rfl (fun h1_3 => ?_) (fun g1_7 => ?_)
  ·
    refine l_on rfl (gF h1_3) ?_
    refine l_fld (o := 0) rfl (by kernel_rfl) rfl ?_
    refine l_on rfl (gF h1_3) ?_
    refine l_ldo 0 (v := .int .i64 x.kind) rfl rfl rfl (by kernel_rfl) rfl ?_
    refine l_on rfl (gF h1_3) ?_
    refine l_gtr rfl rfl rfl ?_
    exact l_nil (fun w' hw => ⟨(by repeat (first | exact Out.refl _ _ | refine Out.upd rfl ?_ | refine Out.msk rfl ?_)), rfl, hw⟩)
  refine l_mv rfl ?_
  refine l_bor (q := (x.kind < 1) ∨ (9 < x.kind)) 5 8 [19, 18, 17, 16, 15] (¬ (1 ≤ x.src ∧ x.src ≤ 16)) rfl rfl rfl rfl rfl rfl trivial rfl (fun h1_8 => ?_) (fun g1_14 => ?_)
  ·
    refine l_on rfl (gF h1_8) ?_
    refine l_ldq (v := .func (.func 45) #[] #[]) rfl (hnb.φ.cell rfl) (hnb.far _ (by simp [Res.row])) (by kernel_rfl) rfl ?_
    refine l_on rfl (gF h1_8) ?_
    refine l_fld (o := 1) rfl (by kernel_rfl) rfl ?_
    refine l_on rfl (gF h1_8) ?_
    refine l_ldo 0 (v := .int .i64 x.src) rfl rfl rfl (by kernel_rfl) rfl ?_
    refine l_on rfl (gF h1_8) ?_
    refine l_callv (fst := []) (cap := []) rfl (by kernel_rfl) rfl rfl (fun w' hw => ?_)
    refine (msgEnd_s x.src w').mono ?_
    rintro _ w1 ⟨rfl, hO⟩
    refine (?_ : CL _ _ _ _ _ _ (Own w [] [Res.row b4 29 (MsgD.cells x)])) w1 (hw.frame0 hO)
    refine l_on rfl (gF h1_8) ?_
    refine l_notp (q := 1 ≤ x.src ∧ x.src ≤ 16) rfl rfl ?_
    exact l_nil (fun w' hw => ⟨(by repeat (first | exact Out.refl _ _ | refine Out.upd rfl ?_ | refine Out.msk rfl ?_)), rfl, hw⟩)
  refine l_mv rfl ?_
  refine l_bor (q := ((x.kind < 1) ∨ (9 < x.kind)) ∨ (¬ (1 ≤ x.src ∧ x.src ≤ 16))) 5 15 [26, 25, 24, 23, 22] (¬ (1 ≤ x.dst ∧ x.dst ≤ 16)) rfl rfl rfl rfl rfl rfl trivial rfl (fun h1_15 => ?_) (fun g1_21 => ?_)
  ·
    refine l_on rfl (gF h1_15) ?_
    refine l_ldq (v := .func (.func 45) #[] #[]) rfl (hnb.φ.cell rfl) (hnb.far _ (by simp [Res.row])) (by kernel_rfl) rfl ?_
    refine l_on rfl (gF h1_15) ?_
    refine l_fld (o := 2) rfl (by kernel_rfl) rfl ?_
    refine l_on rfl (gF h1_15) ?_
    refine l_ldo 0 (v := .int .i64 x.dst) rfl rfl rfl (by kernel_rfl) rfl ?_
    refine l_on rfl (gF h1_15) ?_
    refine l_callv (fst := []) (cap := []) rfl (by kernel_rfl) rfl rfl (fun w' hw => ?_)
    refine (msgEnd_s x.dst w').mono ?_
    rintro _ w1 ⟨rfl, hO⟩
    refine (?_ : CL _ _ _ _ _ _ (Own w [] [Res.row b4 29 (MsgD.cells x)])) w1 (hw.frame0 hO)
    refine l_on rfl (gF h1_15) ?_
    refine l_notp (q := 1 ≤ x.dst ∧ x.dst ≤ 16) rfl rfl ?_
    exact l_nil (fun w' hw => ⟨(by repeat (first | exact Out.refl _ _ | refine Out.upd rfl ?_ | refine Out.msk rfl ?_)), rfl, hw⟩)
  refine l_mv rfl ?_
  refine l_bor (q := (((x.kind < 1) ∨ (9 < x.kind)) ∨ (¬ (1 ≤ x.src ∧ x.src ≤ 16))) ∨ (¬ (1 ≤ x.dst ∧ x.dst ≤ 16))) 3 22 [31, 30, 29] (x.off < 0) rfl rfl rfl rfl rfl rfl trivial rfl (fun h1_22 => ?_) (fun g1_26 => ?_)
  ·
    refine l_on rfl (gF h1_22) ?_
    refine l_fld (o := 12) rfl (by kernel_rfl) rfl ?_
    refine l_on rfl (gF h1_22) ?_
    refine l_ldo 0 (v := .int .i64 x.off) rfl rfl rfl (by kernel_rfl) rfl ?_
    refine l_on rfl (gF h1_22) ?_
    refine l_lss rfl rfl rfl ?_
    exact l_nil (fun w' hw => ⟨(by repeat (first | exact Out.refl _ _ | refine Out.upd rfl ?_ | refine Out.msk rfl ?_)), rfl, hw⟩)
  refine l_mv rfl ?_
  refine l_bor (q := ((((x.kind < 1) ∨ (9 < x.kind)) ∨ (¬ (1 ≤ x.src ∧ x.src ≤ 16))) ∨ (¬ (1 ≤ x.dst ∧ x.dst ≤ 16))) ∨ (x.off < 0)) 3 27 [36, 35, 34] (65536 < x.off) rfl rfl rfl rfl rfl rfl trivial rfl (fun h1_27 => ?_) (fun g1_31 => ?_)
  ·
    refine l_on rfl (gF h1_27) ?_
    refine l_fld (o := 12) rfl (by kernel_rfl) rfl ?_
    refine l_on rfl (gF h1_27) ?_
    refine l_ldo 0 (v := .int .i64 x.off) rfl rfl rfl (by kernel_rfl) rfl ?_
    refine l_on rfl (gF h1_27) ?_
    refine l_gtr rfl rfl rfl ?_
    exact l_nil (fun w' hw => ⟨(by repeat (first | exact Out.refl _ _ | refine Out.upd rfl ?_ | refine Out.msk rfl ?_)), rfl, hw⟩)
  refine l_mv rfl ?_
  refine l_bor (q := (((((x.kind < 1) ∨ (9 < x.kind)) ∨ (¬ (1 ≤ x.src ∧ x.src ≤ 16))) ∨ (¬ (1 ≤ x.dst ∧ x.dst ≤ 16))) ∨ (x.off < 0)) ∨ (65536 < x.off)) 4 32 [42, 41, 40, 39] (256 < ((x.data.length : Nat) : Int)) rfl rfl rfl rfl rfl rfl trivial rfl (fun h1_32 => ?_) (fun g1_37 => ?_)
  ·
    refine l_on rfl (gF h1_32) ?_
    refine l_fld (o := 13) rfl (by kernel_rfl) rfl ?_
    refine l_on rfl (gF h1_32) ?_
    refine l_ldo 0 (v := x.dv) rfl rfl rfl (by kernel_rfl) rfl ?_
    refine l_on rfl (gF h1_32) ?_
    refine l_lenS (len := x.data.length) (cs := (x.data.map vb)) (by kernel_rfl) rfl (fun w' hw' => Own.rd rd_x.dv hw') rfl ?_
    refine l_on rfl (gF h1_32) ?_
    refine l_gtr rfl rfl rfl ?_
    exact l_nil (fun w' hw => ⟨(by repeat (first | exact Out.refl _ _ | refine Out.upd rfl ?_ | refine Out.msk rfl ?_)), rfl, hw⟩)
  refine l_mv rfl ?_
  refine l_bor (q := ((((((x.kind < 1) ∨ (9 < x.kind)) ∨ (¬ (1 ≤ x.src ∧ x.src ≤ 16))) ∨ (¬ (1 ≤ x.dst ∧ x.dst ≤ 16))) ∨ (x.off < 0)) ∨ (65536 < x.off)) ∨ (256 < ((x.data.length : Nat) : Int))) 4 38 [48, 47, 46, 45] (8 < ((x.ents.length : Nat) : Int)) rfl rfl rfl rfl rfl rfl trivial rfl (fun h1_38 => ?_) (fun g1_43 => ?_)
  ·
    refine l_on rfl (gF h1_38) ?_
    refine l_fld (o := 9) rfl (by kernel_rfl) rfl ?_
    refine l_on rfl (gF h1_38) ?_
    refine l_ldo 0 (v := x.ev) rfl rfl rfl (by kernel_rfl) rfl ?_
    refine l_on rfl (gF h1_38) ?_
    refine l_lenS (len := x.ents.length) (cs := (x.ents.flatMap EntD.cells)) (by kernel_rfl) rfl (fun w' hw' => Own.rd rd_x.ev hw') rfl ?_
    refine l_on rfl (gF h1_38) ?_
    refine l_gtr rfl rfl rfl ?_
    exact l_nil (fun w' hw => ⟨(by repeat (first | exact Out.refl _ _ | refine Out.upd rfl ?_ | refine Out.msk rfl ?_)), rfl, hw⟩)
  refine l_end ?_
  refine c_dec rfl (fun c1 => ?_) (fun c1 => ?_)
  ·
    refine c_reg ?_
    refine l_as rfl ?_
    refine l_end ?_
    exact c_ret (ret1 (v := .bool false) rfl rfl (fun w' hw => ⟨(by rw [decide_eq_false]; intro h; have h := (MsgD.head_iff.1 (MsgD.ok_iff.1 h).1).1; omega), hw.drop⟩))
  ·
    refine c_skipC ?_
    refine c_seq ?_
    refine c_reg ?_
    refine l_fld (o := 0) rfl (by kernel_rfl) rfl ?_
    refine l_ldo 0 (v := .int .i64 x.kind) rfl rfl rfl (by kernel_rfl) rfl ?_
    refine l_eq rfl rfl rfl ?_
    refine l_mv rfl ?_
    refine l_band (q := x.kind = 7) 6 3 [59, 58, 57, 56, 55, 54] (¬ x.conf.ok) rfl rfl rfl rfl rfl rfl trivial rfl (fun h3_3 => ?_) (fun g3_10 => ?_)
    ·
      refine l_on rfl (gT h3_3) ?_
      refine l_fld (o := 0) rfl (by kernel_rfl) rfl ?_
      refine l_on rfl (gT h3_3) ?_
      refine l_ldq (v := .func (.func 80) #[] #[]) rfl (hcb.φ.cell rfl) (hcb.far _ (by simp [Res.row])) (by kernel_rfl) rfl ?_
      refine l_on rfl (gT h3_3) ?_
      refine l_fld (o := 10) rfl (by kernel_rfl) rfl ?_
      refine l_on rfl (gT h3_3) ?_
      refine l_ldoN (cs := (MsgD.cells x)) 0 (ConfD.cells x.conf) rfl rfl (sub_at' 10 rfl) (by kernel_rfl) rfl ?_
      refine l_on rfl (gT h3_3) ?_
      refine l_callv (fst := []) (cap := []) rfl (by kernel_rfl) rfl rfl (fun w' hw => ?_)
      refine (confSound_spec x.conf w' (by first | assumption | omega | (simp <;> omega) | (constructor <;> (first | omega | (simp only [LenOk]; omega) | (simp <;> omega)))) (rd_x.conf.at0 hw)).mono ?_
      rintro _ w1 ⟨rfl, hO⟩
      refine (?_ : CL _ _ _ _ _ _ (Own w [] [Res.row b4 29 (MsgD.cells x)])) w1 (hw.frame0 hO)
      refine l_on rfl (gT h3_3) ?_
      refine l_notp (q := x.conf.ok) rfl rfl ?_
      exact l_nil (fun w' hw => ⟨(by repeat (first | exact Out.refl _ _ | refine Out.upd rfl ?_ | refine Out.msk rfl ?_)), rfl, hw⟩)
    refine l_mv rfl ?_
    refine l_bor (q := (x.kind = 7) ∧ (¬ x.conf.ok)) 15 11 [76, 75, 74, 73, 72, 71, 70, 69, 68, 67, 66, 65, 64, 63, 62] ((x.kind ≠ 7) ∧ (0 < ((x.conf.vs.length + x.conf.ls.length : Nat) : Int))) rfl rfl rfl rfl rfl rfl trivial rfl (fun h3_11 => ?_) (fun g3_27 => ?_)
    ·
      refine l_on rfl (gF h3_11) ?_
      refine l_fld (o := 0) rfl (by kernel_rfl) rfl ?_
      refine l_on rfl (gF h3_11) ?_
      refine l_ldo 0 (v := .int .i64 x.kind) rfl rfl rfl (by kernel_rfl) rfl ?_
      refine l_on rfl (gF h3_11) ?_
      refine l_ne rfl rfl rfl ?_
      refine l_on rfl (gF h3_11) ?_
      refine l_mv rfl ?_
      refine l_band (q := x.kind ≠ 7) 10 15 [75, 74, 73, 72, 71, 70, 69, 68, 67, 66] (0 < ((x.conf.vs.length + x.conf.ls.length : Nat) : Int)) rfl rfl rfl rfl rfl rfl ⟨_, rfl, rfl, gF h3_11⟩ rfl (fun h3_15 => ?_) (fun g3_26 => ?_)
      ·
        refine l_on rfl (gT h3_15) ?_
        refine l_fld (o := 10) rfl (by kernel_rfl) rfl ?_
        refine l_on rfl (gT h3_15) ?_
        refine l_fld (o := 0) rfl (by kernel_rfl) rfl ?_
        refine l_on rfl (gT h3_15) ?_
        refine l_ldo 0 (v := x.conf.vv) rfl rfl rfl (by kernel_rfl) rfl ?_
        refine l_on rfl (gT h3_15) ?_
        refine l_lenS (len := x.conf.vs.length) (cs := (x.conf.vs.flatMap I1)) (by kernel_rfl) rfl (fun w' hw' => Own.rd rd_x.conf.vv hw') rfl ?_
        refine l_on rfl (gT h3_15) ?_
        refine l_fld (o := 10) rfl (by kernel_rfl) rfl ?_
        refine l_on rfl (gT h3_15) ?_
        refine l_fld (o := 1) rfl (by kernel_rfl) rfl ?_
        refine l_on rfl (gT h3_15) ?_
        refine l_ldo 0 (v := x.conf.lv) rfl rfl rfl (by kernel_rfl) rfl ?_
        refine l_on rfl (gT h3_15) ?_
        refine l_lenS (len := x.conf.ls.length) (cs := (x.conf.ls.flatMap I1)) (by kernel_rfl) rfl (fun w' hw' => Own.rd rd_x.conf.lv hw') rfl ?_
        refine l_on rfl (gT h3_15) ?_
        refine l_add rfl rfl (wi64 (by omega)) rfl ?_
        refine l_on rfl (gT h3_15) ?_
        refine l_gtr rfl rfl rfl ?_
        exact l_nil (fun w' hw => ⟨(by repeat (first | exact Out.refl _ _ | refine Out.upd rfl ?_ | refine Out.msk rfl ?_)), rfl, hw⟩)
      exact l_nil (fun w' hw => ⟨(by repeat (first | exact Out.refl _ _ | refine Out.upd rfl ?_ | refine Out.msk rfl ?_)), rfl, hw⟩)
    refine l_end ?_
    refine c_dec rfl (fun c2 => ?_) (fun c2 => ?_)
    ·
      refine c_reg ?_
      refine l_as rfl ?_
      refine l_end ?_
      exact c_ret (ret1 (v := .bool false) rfl rfl (fun w' hw => ⟨(by rw [decide_eq_false]; intro h; have h2 := (MsgD.head_iff.1 (MsgD.ok_iff.1 h).1).2; rcases c2 with ⟨e, h'⟩ | ⟨e, h'⟩; (rw [if_pos e] at h2; exact h' h2); (rw [if_neg e] at h2; omega)), hw.drop⟩))
    ·
      refine c_skipC ?_
      refine c_reg ?_
      refine l_fld (o := 9) rfl (by kernel_rfl) rfl ?_
      refine l_ldo 0 (v := x.ev) rfl rfl rfl (by kernel_rfl) rfl ?_
      refine l_fn (va := []) (vb := [.pointer (some ⟨eb, 0, none⟩)]) rfl rfl rfl ?_
      refine l_call (by kernel_rfl) rfl rfl (fun w' hw => ?_)
      refine (hasBad_s x.ev x.ents eb w' (by first | assumption | omega | (simp <;> omega) | (constructor <;> (first | omega | (simp only [LenOk]; omega) | (simp <;> omega)))) hx.each (hw.rd0 heb) (hw.rd0 rd_x.ev) (fun p hp => EntD.rd.at0 (rd_x.ev_all p hp) hw)).mono ?_
      rintro _ w1 ⟨rfl, hO⟩
      refine (?_ : CL _ _ _ _ _ _ (Own w [] [Res.row b4 29 (MsgD.cells x)])) w1 (hw.frame0 hO)
      refine l_notp (q := ∃ q ∈ x.ents, ¬ q.ok) rfl rfl ?_
      refine l_as rfl ?_
      refine l_end ?_
      exact c_ret (ret1 (v := .bool (decide (¬ (∃ q ∈ x.ents, ¬ q.ok)))) rfl rfl (fun w' hw => ⟨(by congr 1; exact decide_eq_decide.2 (by rw [MsgD.ok_iff]; exact ⟨fun h => ⟨MsgD.head_iff.2 ⟨by omega, by split; (rename_i e; exact Decidable.not_not.1 fun q => c2 (.inl ⟨e, q⟩)); (rename_i e; have := fun q => c2 (.inr ⟨e, q⟩); omega)⟩, fun e he => Decidable.not_not.1 fun q => h ⟨e, he, q⟩⟩, fun h ⟨e, he, q⟩ => q (h.2 e he)⟩)), hw.drop⟩))
theorem msgLoop {l : List EntD} {h : Prop} {f : Bool} {k : Nat} (h1 : f = true ↔ h ∧ ∀ e ∈ l.take k, e.ok) (hk : k ≤ l.length) (c : ¬ (f = true ∧ (k : Int) < (l.length : Int))) : f = true ↔ h ∧ ∀ e ∈ l, e.ok := by
  by_cases hf : f = true
  · have : k = l.length := by have : ¬ (k : Int) < (l.length : Int) := fun q => c ⟨hf, q⟩; omega
    rw [this, List.take_length] at h1; exact h1
  · refine ⟨fun q => absurd q hf, fun q => h1.2 ⟨q.1, fun e he => q.2 e (List.mem_of_mem_take he)⟩⟩
theorem rmsgOK_s (x : MsgD) (w : World) (hx : x.wf) (rd_x : MsgD.rd x w []) : Rets Tryz.prog 25 #[.agg (MsgD.cells x).toArray] w fun u_ w' => u_ = .bool (decide x.a.ok) ∧ Own w [] [] w' := by
  have hd := hx.data
  have hf := hx.conf
  have hc := hx.conf.wf
  have hv := hc.vs
  have hl := hc.ls
  have he := hx.ents
  refine fn_enter (args := [.agg (MsgD.cells x).toArray]) Tryz.func25 rfl Tryz.ntmps25 rfl (Own.start w) ?_
  refine c_reg ?_
  refine l_box rfl rfl (fun b1 => ?_)
  refine l_as rfl ?_
  refine l_end ?_
  refine c_reg ?_
  refine l_fld (o := 0) rfl (by kernel_rfl) rfl ?_
  refine l_ldo 0 (v := .int .i64 x.kind) rfl rfl rfl (by kernel_rfl) rfl ?_
  refine l_geq rfl rfl rfl ?_
  refine l_mv rfl ?_
  refine l_band (q := 1 ≤ x.kind) 3 3 [11, 10, 9] (x.kind ≤ 9) rfl rfl rfl rfl rfl rfl trivial rfl (fun h1_3 => ?_) (fun g1_7 => ?_)
  ·
    refine l_on rfl (gT h1_3) ?_
    refine l_fld (o := 0) rfl (by kernel_rfl) rfl ?_
    refine l_on rfl (gT h1_3) ?_
    refine l_ldo 0 (v := .int .i64 x.kind) rfl rfl rfl (by kernel_rfl) rfl ?_
    refine l_on rfl (gT h1_3) ?_
    refine l_leq rfl rfl rfl ?_
    exact l_nil (fun w' hw => ⟨(by repeat (first | exact Out.refl _ _ | refine Out.upd rfl ?_ | refine Out.msk rfl ?_)), rfl, hw⟩)
  refine l_mv rfl ?_
  refine l_band (q := (1 ≤ x.kind) ∧ (x.kind ≤ 9)) 3 8 [16, 15, 14] (1 ≤ x.src) rfl rfl rfl rfl rfl rfl trivial rfl (fun h1_8 => ?_) (fun g1_12 => ?_)
  ·
    refine l_on rfl (gT h1_8) ?_
    refine l_fld (o := 1) rfl (by kernel_rfl) rfl ?_
    refine l_on rfl (gT h1_8) ?_
    refine l_ldo 0 (v := .int .i64 x.src) rfl rfl rfl (by kernel_rfl) rfl ?_
    refine l_on rfl (gT h1_8) ?_
    refine l_geq rfl rfl rfl ?_
    exact l_nil (fun w' hw => ⟨(by repeat (first | exact Out.refl _ _ | refine Out.upd rfl ?_ | refine Out.msk rfl ?_)), rfl, hw⟩)
  refine l_mv rfl ?_
  refine l_band (q := ((1 ≤ x.kind) ∧ (x.kind ≤ 9)) ∧ (1 ≤ x.src)) 3 13 [21, 20, 19] (x.src ≤ 16) rfl rfl rfl rfl rfl rfl trivial rfl (fun h1_13 => ?_) (fun g1_17 => ?_)
  ·
    refine l_on rfl (gT h1_13) ?_
    refine l_fld (o := 1) rfl (by kernel_rfl) rfl ?_
    refine l_on rfl (gT h1_13) ?_
    refine l_ldo 0 (v := .int .i64 x.src) rfl rfl rfl (by kernel_rfl) rfl ?_
    refine l_on rfl (gT h1_13) ?_
    refine l_leq rfl rfl rfl ?_
    exact l_nil (fun w' hw => ⟨(by repeat (first | exact Out.refl _ _ | refine Out.upd rfl ?_ | refine Out.msk rfl ?_)), rfl, hw⟩)
  refine l_mv rfl ?_
  refine l_band (q := (((1 ≤ x.kind) ∧ (x.kind ≤ 9)) ∧ (1 ≤ x.src)) ∧ (x.src ≤ 16)) 3 18 [26, 25, 24] (1 ≤ x.dst) rfl rfl rfl rfl rfl rfl trivial rfl (fun h1_18 => ?_) (fun g1_22 => ?_)
  ·
    refine l_on rfl (gT h1_18) ?_
    refine l_fld (o := 2) rfl (by kernel_rfl) rfl ?_
    refine l_on rfl (gT h1_18) ?_
    refine l_ldo 0 (v := .int .i64 x.dst) rfl rfl rfl (by kernel_rfl) rfl ?_
    refine l_on rfl (gT h1_18) ?_
    refine l_geq rfl rfl rfl ?_
    exact l_nil (fun w' hw => ⟨(by repeat (first | exact Out.refl _ _ | refine Out.upd rfl ?_ | refine Out.msk rfl ?_)), rfl, hw⟩)
  refine l_mv rfl ?_
  refine l_band (q := ((((1 ≤ x.kind) ∧ (x.kind ≤ 9)) ∧ (1 ≤ x.src)) ∧ (x.src ≤ 16)) ∧ (1 ≤ x.dst)) 3 23 [31, 30, 29] (x.dst ≤ 16) rfl rfl rfl rfl rfl rfl trivial rfl (fun h1_23 => ?_) (fun g1_27 => ?_)
  ·
    refine l_on rfl (gT h1_23) ?_
    refine l_fld (o := 2) rfl (by kernel_rfl) rfl ?_
    refine l_on rfl (gT h1_23) ?_
    refine l_ldo 0 (v := .int .i64 x.dst) rfl rfl rfl (by kernel_rfl) rfl ?_
    refine l_on rfl (gT h1_23) ?_
    refine l_leq rfl rfl rfl ?_
    exact l_nil (fun w' hw => ⟨(by repeat (first | exact Out.refl _ _ | refine Out.upd rfl ?_ | refine Out.msk rfl ?_)), rfl, hw⟩)
  refine l_mv rfl ?_
  refine l_band (q := (((((1 ≤ x.kind) ∧ (x.kind ≤ 9)) ∧ (1 ≤ x.src)) ∧ (x.src ≤ 16)) ∧ (1 ≤ x.dst)) ∧ (x.dst ≤ 16)) 3 28 [36, 35, 34] (0 ≤ x.off) rfl rfl rfl rfl rfl rfl trivial rfl (fun h1_28 => ?_) (fun g1_32 => ?_)
  ·
    refine l_on rfl (gT h1_28) ?_
    refine l_fld (o := 12) rfl (by kernel_rfl) rfl ?_
    refine l_on rfl (gT h1_28) ?_
    refine l_ldo 0 (v := .int .i64 x.off) rfl rfl rfl (by kernel_rfl) rfl ?_
    refine l_on rfl (gT h1_28) ?_
    refine l_geq rfl rfl rfl ?_
    exact l_nil (fun w' hw => ⟨(by repeat (first | exact Out.refl _ _ | refine Out.upd rfl ?_ | refine Out.msk rfl ?_)), rfl, hw⟩)
  refine l_mv rfl ?_
  refine l_band (q := ((((((1 ≤ x.kind) ∧ (x.kind ≤ 9)) ∧ (1 ≤ x.src)) ∧ (x.src ≤ 16)) ∧ (1 ≤ x.dst)) ∧ (x.dst ≤ 16)) ∧ (0 ≤ x.off)) 3 33 [41, 40, 39] (x.off ≤ 65536) rfl rfl rfl rfl rfl rfl trivial rfl (fun h1_33 => ?_) (fun g1_37 => ?_)
  ·
    refine l_on rfl (gT h1_33) ?_
    refine l_fld (o := 12) rfl (by kernel_rfl) rfl ?_
    refine l_on rfl (gT h1_33) ?_
    refine l_ldo 0 (v := .int .i64 x.off) rfl rfl rfl (by kernel_rfl) rfl ?_
    refine l_on rfl (gT h1_33) ?_
    refine l_leq rfl rfl rfl ?_
    exact l_nil (fun w' hw => ⟨(by repeat (first | exact Out.refl _ _ | refine Out.upd rfl ?_ | refine Out.msk rfl ?_)), rfl, hw⟩)
  refine l_mv rfl ?_
  refine l_band (q := (((((((1 ≤ x.kind) ∧ (x.kind ≤ 9)) ∧ (1 ≤ x.src)) ∧ (x.src ≤ 16)) ∧ (1 ≤ x.dst)) ∧ (x.dst ≤ 16)) ∧ (0 ≤ x.off)) ∧ (x.off ≤ 65536)) 4 38 [47, 46, 45, 44] (((x.data.length : Nat) : Int) ≤ 256) rfl rfl rfl rfl rfl rfl trivial rfl (fun h1_38 => ?_) (fun g1_43 => ?_)
  ·
    refine l_on rfl (gT h1_38) ?_
    refine l_fld (o := 13) rfl (by kernel_rfl) rfl ?_
    refine l_on rfl (gT h1_38) ?_
    refine l_ldo 0 (v := x.dv) rfl rfl rfl (by kernel_rfl) rfl ?_
    refine l_on rfl (gT h1_38) ?_
    refine l_lenS (len := x.data.length) (cs := (x.data.map vb)) (by kernel_rfl) rfl (fun w' hw' => Own.rd rd_x.dv hw') rfl ?_
    refine l_on rfl (gT h1_38) ?_
    refine l_leq rfl rfl rfl ?_
    exact l_nil (fun w' hw => ⟨(by repeat (first | exact Out.refl _ _ | refine Out.upd rfl ?_ | refine Out.msk rfl ?_)), rfl, hw⟩)
  refine l_mv rfl ?_
  refine l_band (q := ((((((((1 ≤ x.kind) ∧ (x.kind ≤ 9)) ∧ (1 ≤ x.src)) ∧ (x.src ≤ 16)) ∧ (1 ≤ x.dst)) ∧ (x.dst ≤ 16)) ∧ (0 ≤ x.off)) ∧ (x.off ≤ 65536)) ∧ (((x.data.length : Nat) : Int) ≤ 256)) 4 44 [53, 52, 51, 50] (((x.ents.length : Nat) : Int) ≤ 8) rfl rfl rfl rfl rfl rfl trivial rfl (fun h1_44 => ?_) (fun g1_49 => ?_)
  ·
    refine l_on rfl (gT h1_44) ?_
    refine l_fld (o := 9) rfl (by kernel_rfl) rfl ?_
    refine l_on rfl (gT h1_44) ?_
    refine l_ldo 0 (v := x.ev) rfl rfl rfl (by kernel_rfl) rfl ?_
    refine l_on rfl (gT h1_44) ?_
    refine l_lenS (len := x.ents.length) (cs := (x.ents.flatMap EntD.cells)) (by kernel_rfl) rfl (fun w' hw' => Own.rd rd_x.ev hw') rfl ?_
    refine l_on rfl (gT h1_44) ?_
    refine l_leq rfl rfl rfl ?_
    exact l_nil (fun w' hw => ⟨(by repeat (first | exact Out.refl _ _ | refine Out.upd rfl ?_ | refine Out.msk rfl ?_)), rfl, hw⟩)
  refine l_as rfl ?_
  refine l_end ?_
  refine c_cut1 (fun (f : Bool) => [(1, .pointer (some ⟨b1, 0, none⟩)), (3, .bool f)]) (fun (f : Bool) => (f = true ↔ x.a.head)) (fun (f : Bool) => [Res.row b1 29 (MsgD.cells x)]) ?_ (fun f g hΦ => ?_)
  ·
    refine c_reg ?_
    refine l_fld (o := 0) rfl (by kernel_rfl) rfl ?_
    refine l_ldo 0 (v := .int .i64 x.kind) rfl rfl rfl (by kernel_rfl) rfl ?_
    refine l_eq rfl rfl rfl ?_
    refine l_end ?_
    refine c_dec rfl (fun c1 => ?_) (fun c1 => ?_)
    ·
      refine c_last ?_
      refine l_mv rfl ?_
      refine l_mv rfl ?_
      refine l_band (q := (((((((((1 ≤ x.kind) ∧ (x.kind ≤ 9)) ∧ (1 ≤ x.src)) ∧ (x.src ≤ 16)) ∧ (1 ≤ x.dst)) ∧ (x.dst ≤ 16)) ∧ (0 ≤ x.off)) ∧ (x.off ≤ 65536)) ∧ (((x.data.length : Nat) : Int) ≤ 256)) ∧ (((x.ents.length : Nat) : Int) ≤ 8)) 3 1 [62, 61, 60] (x.conf.ok) rfl rfl rfl rfl rfl rfl trivial rfl (fun h3_1 => ?_) (fun g3_5 => ?_)
      ·
        refine l_on rfl (gT h3_1) ?_
        refine l_fld (o := 10) rfl (by kernel_rfl) rfl ?_
        refine l_on rfl (gT h3_1) ?_
        refine l_ldoN (cs := (MsgD.cells x)) 0 (ConfD.cells x.conf) rfl rfl (sub_at' 10 rfl) (by kernel_rfl) rfl ?_
        refine l_on rfl (gT h3_1) ?_
        refine l_call (by kernel_rfl) rfl rfl (fun w' hw => ?_)
        refine (confOK_spec x.conf w' (by first | assumption | omega | (simp <;> omega) | (constructor <;> (first | omega | (simp only [LenOk]; omega) | (simp <;> omega)))) (rd_x.conf.at0 hw)).mono ?_
        rintro _ w1 ⟨rfl, hO⟩
        refine (?_ : CL _ _ _ _ _ _ (Own w [] [Res.row b1 29 (MsgD.cells x)])) w1 (hw.frame0 hO)
        exact l_nil (fun w' hw => ⟨(by repeat (first | exact Out.refl _ _ | refine Out.upd rfl ?_ | refine Out.msk rfl ?_)), rfl, hw⟩)
      refine l_as rfl ?_
      exact l_nil (fun w' hw => ⟨_, ⟨rfl, rfl, trivial⟩, by rw [decide_eq_true_iff, MsgD.head_iff, if_pos c1]; exact ⟨fun h => ⟨by have := h.1; omega, h.2⟩, fun h => ⟨by have := h.1; omega, h.2⟩⟩, hw⟩)
    ·
      refine c_last ?_
      refine l_mv rfl ?_
      refine l_mv rfl ?_
      refine l_band (q := (((((((((1 ≤ x.kind) ∧ (x.kind ≤ 9)) ∧ (1 ≤ x.src)) ∧ (x.src ≤ 16)) ∧ (1 ≤ x.dst)) ∧ (x.dst ≤ 16)) ∧ (0 ≤ x.off)) ∧ (x.off ≤ 65536)) ∧ (((x.data.length : Nat) : Int) ≤ 256)) ∧ (((x.ents.length : Nat) : Int) ≤ 8)) 5 1 [70, 69, 68, 67, 66] (((x.conf.vs.length : Nat) : Int) = 0) rfl rfl rfl rfl rfl rfl trivial rfl (fun h4_1 => ?_) (fun g4_7 => ?_)
      ·
        refine l_on rfl (gT h4_1) ?_
        refine l_fld (o := 10) rfl (by kernel_rfl) rfl ?_
        refine l_on rfl (gT h4_1) ?_
        refine l_fld (o := 0) rfl (by kernel_rfl) rfl ?_
        refine l_on rfl (gT h4_1) ?_
        refine l_ldo 0 (v := x.conf.vv) rfl rfl rfl (by kernel_rfl) rfl ?_
        refine l_on rfl (gT h4_1) ?_
        refine l_lenS (len := x.conf.vs.length) (cs := (x.conf.vs.flatMap I1)) (by kernel_rfl) rfl (fun w' hw' => Own.rd rd_x.conf.vv hw') rfl ?_
        refine l_on rfl (gT h4_1) ?_
        refine l_eq rfl rfl rfl ?_
        exact l_nil (fun w' hw => ⟨(by repeat (first | exact Out.refl _ _ | refine Out.upd rfl ?_ | refine Out.msk rfl ?_)), rfl, hw⟩)
      refine l_mv rfl ?_
      refine l_band (q := ((((((((((1 ≤ x.kind) ∧ (x.kind ≤ 9)) ∧ (1 ≤ x.src)) ∧ (x.src ≤ 16)) ∧ (1 ≤ x.dst)) ∧ (x.dst ≤ 16)) ∧ (0 ≤ x.off)) ∧ (x.off ≤ 65536)) ∧ (((x.data.length : Nat) : Int) ≤ 256)) ∧ (((x.ents.length : Nat) : Int) ≤ 8)) ∧ (((x.conf.vs.length : Nat) : Int) = 0)) 5 8 [77, 76, 75, 74, 73] (((x.conf.ls.length : Nat) : Int) = 0) rfl rfl rfl rfl rfl rfl trivial rfl (fun h4_8 => ?_) (fun g4_14 => ?_)
      ·
        refine l_on rfl (gT h4_8) ?_
        refine l_fld (o := 10) rfl (by kernel_rfl) rfl ?_
        refine l_on rfl (gT h4_8) ?_
        refine l_fld (o := 1) rfl (by kernel_rfl) rfl ?_
        refine l_on rfl (gT h4_8) ?_
        refine l_ldo 0 (v := x.conf.lv) rfl rfl rfl (by kernel_rfl) rfl ?_
        refine l_on rfl (gT h4_8) ?_
        refine l_lenS (len := x.conf.ls.length) (cs := (x.conf.ls.flatMap I1)) (by kernel_rfl) rfl (fun w' hw' => Own.rd rd_x.conf.lv hw') rfl ?_
        refine l_on rfl (gT h4_8) ?_
        refine l_eq rfl rfl rfl ?_
        exact l_nil (fun w' hw => ⟨(by repeat (first | exact Out.refl _ _ | refine Out.upd rfl ?_ | refine Out.msk rfl ?_)), rfl, hw⟩)
      refine l_as rfl ?_
      exact l_nil (fun w' hw => ⟨_, ⟨rfl, rfl, trivial⟩, by rw [decide_eq_true_iff, MsgD.head_iff, if_neg c1]; constructor <;> intro h <;> omega, hw⟩)
  have h5 := hΦ
  refine c_seq ?_
  refine c_reg ?_
  refine l_as rfl ?_
  refine l_end ?_
  refine c_block ?_
  refine c_loop2 (fun (k : Nat) (f2 : Bool) => [(1, .pointer (some ⟨b1, 0, none⟩)), (3, .bool f2), (4, .int .i64 (k : Nat))]) (fun (k : Nat) (f2 : Bool) => k ≤ x.ents.length ∧ (f2 = true ↔ x.a.head ∧ ∀ e ∈ x.ents.take k, e.ok)) (fun (k : Nat) (f2 : Bool) => [Res.row b1 29 (MsgD.cells x)]) (fun (k : Nat) (f2 : Bool) => x.ents.length - k) (fun w' hw => ⟨0, f, ⟨rfl, rfl, rfl, trivial⟩, ⟨Nat.zero_le _, by simpa using h5⟩, hw⟩) (fun k f2 g hΦ => ?_)
  refine c_seq ?_
  refine c_reg ?_
  refine l_mv rfl ?_
  refine l_mv rfl ?_
  refine l_band (q := f2 = true) 5 1 [85, 84, 83, 82, 81] (((k : Nat) : Int) < ((x.ents.length : Nat) : Int)) rfl rfl (bool_dec _) rfl rfl rfl trivial rfl (fun h6_1 => ?_) (fun g6_7 => ?_)
  ·
    refine l_on rfl (bT h6_1) ?_
    refine l_mv rfl ?_
    refine l_on rfl (bT h6_1) ?_
    refine l_fld (o := 9) rfl (by kernel_rfl) rfl ?_
    refine l_on rfl (bT h6_1) ?_
    refine l_ldo 0 (v := x.ev) rfl rfl rfl (by kernel_rfl) rfl ?_
    refine l_on rfl (bT h6_1) ?_
    refine l_lenS (len := x.ents.length) (cs := (x.ents.flatMap EntD.cells)) (by kernel_rfl) rfl (fun w' hw' => Own.rd rd_x.ev hw') rfl ?_
    refine l_on rfl (bT h6_1) ?_
    refine l_lss rfl rfl rfl ?_
    exact l_nil (fun w' hw => ⟨(by repeat (first | exact Out.refl _ _ | refine Out.upd rfl ?_ | refine Out.msk rfl ?_)), rfl, hw⟩)
  refine l_end ?_
  refine c_dec rfl (fun c2 => ?_) (fun c2 => ?_)
  ·
    refine c_skipC ?_
    refine c_seq ?_
    refine c_block ?_
    refine c_last ?_
    refine l_fld (o := 9) rfl (by kernel_rfl) rfl ?_
    refine l_ldo 0 (v := x.ev) rfl rfl rfl (by kernel_rfl) rfl ?_
    refine l_mv rfl ?_
    refine l_idxS (j := k) (sz := 5) (len := x.ents.length) (cs := (x.ents.flatMap EntD.cells)) rfl rfl (by kernel_rfl) (fun w' hw' => Own.rd rd_x.ev hw') rfl (by omega) rfl ?_
    refine l_ldSN (v := x.ev) (off := offV x.ev + k * 5) (k * 5 + 0) (cs := (x.ents.flatMap EntD.cells)) (EntD.cells (nth x.ents k)) rfl (by omega) (fun w' hw' => Own.rd rd_x.ev hw') (flat_atN (sz := 5) (fun _ => rfl) (nth_some (by omega)) (o := 0) (us := (EntD.cells (nth x.ents k))) (fun k u h => by rw [Nat.zero_add]; exact h)) (by kernel_rfl) rfl ?_
    refine l_call (by kernel_rfl) rfl rfl (fun w' hw => ?_)
    refine (rentOK_s (nth x.ents k) w' (hx.each _ (nth_mem (by omega))) ((rd_x.ev_all _ (nth_mem (by omega))).at0 hw)).mono ?_
    rintro _ w1 ⟨rfl, hO⟩
    refine (?_ : CL _ _ _ _ _ _ (Own w [] [Res.row b1 29 (MsgD.cells x)])) w1 (hw.frame0 hO)
    refine l_as rfl ?_
    refine l_end ?_
    refine c_last ?_
    refine l_mv rfl ?_
    refine l_add rfl rfl (wi64 (by omega)) rfl ?_
    refine l_as rfl ?_
    exact l_nil (fun w' hw => ⟨k + 1, _, ⟨rfl, rfl, rfl, trivial⟩, ⟨by omega, by rw [decide_eq_true_iff, take_nth (by omega)]; constructor; (intro h; refine ⟨(hΦ.2.1 c2.1).1, fun e he => ?_⟩; rcases List.mem_append.1 he with q | q; exact (hΦ.2.1 c2.1).2 e q; simp at q; rw [q]; exact h); (intro h; exact h.2 _ (by simp))⟩, hw, (by omega)⟩)
  ·
    refine c_exitC rfl ?_
    refine c_reg ?_
    refine l_mv rfl ?_
    refine l_as rfl ?_
    refine l_end ?_
    exact c_ret (ret1 (v := .bool f2) rfl rfl (fun w' hw => ⟨(by rw [show f2 = decide x.a.ok from by rw [Bool.eq_iff_iff, decide_eq_true_iff, MsgD.ok_iff]; exact msgLoop hΦ.2 hΦ.1 c2]), hw.drop⟩))

def entsD (es : List EntD) : List UInt8 := es.flatMap fun e => e.enc
theorem entsD_eq (es : List EntD) : entsD es = entsB (es.map EntD.toEntA) := by simp only [entsD, entsB, List.flatMap_map]
def MsgD.headB (x : MsgD) : List UInt8 := numsB ([x.kind, x.src, x.dst].map u64) ++ numsB [x.term, x.index, x.logTerm, x.commit, x.round] ++ numsB ([x.flag].map fl) ++ numsB ([(x.ents.length : Int)].map u64)
theorem u64_nat {n : Nat} (h : n < 18446744073709551616) : u64 (n : Int) = n := by unfold u64; omega
theorem MsgD.enc_eq {x : MsgD} (h : x.wf) : x.a.enc = x.headB ++ entsD x.ents ++ x.conf.enc ++ numsB ([x.off].map u64) ++ dat x.data := by
  have he := h.ents
  simp only [MsgA.enc, MsgD.a, MsgD.headB, entsD_eq, ConfD.enc, ConfA.enc, ConfD.a, List.length_map, List.map_cons, List.map_nil, u64_nat (show x.ents.length < 18446744073709551616 by omega)]
theorem MsgD.headB_le {x : MsgD} (h : x.wf) : x.headB.length ≤ 200 := by
  have h1 := numsB_length (ns := [u64 x.kind, u64 x.src, u64 x.dst]) (by simp [u64_lt])
  have h2 := numsB_length (ns := [x.term, x.index, x.logTerm, x.commit, x.round]) (by have := h.term; have := h.index; have := h.logTerm; have := h.commit; have := h.round; simp [*])
  have h3 := numsB_length (ns := [fl x.flag]) (by simp [fl_lt])
  have h4 := numsB_length (ns := [u64 (x.ents.length : Int)]) (by simp [u64_lt])
  simp only [MsgD.headB, List.map_cons, List.map_nil, List.length_append, List.length_cons, List.length_nil] at *
  omega
theorem msgWrite_s (o : Nat) (sl : Value) (bs : List UInt8) (x : MsgD) (eb : Nat) (cb : Nat) (w : World) (hx : x.wf) (hb : bs.length ≤ 1000000000) (heb : Rd w (fps [Res.bv o TOut sl bs]) (Res.row eb 121 [.func (.func 89) #[] #[], .func (.func 91) #[] #[], .func (.func 92) #[] #[]])) (hcb : Rd w (fps [Res.bv o TOut sl bs]) (Res.row cb 115 [.func (.func 80) #[] #[], .func (.func 85) #[] #[], .func (.func 87) #[] #[]])) (rd_x : MsgD.rd x w (fps [Res.bv o TOut sl bs])) (hin : Own w (fps [Res.bv o TOut sl bs]) [Res.bv o TOut sl bs] w) : Rets Tryz.prog 49 #[.pointer (some ⟨o, 0, none⟩), .agg (MsgD.cells x).toArray, .pointer (some ⟨eb, 0, none⟩), .pointer (some ⟨cb, 0, none⟩)] w fun u_ w' => ∃ (sl' : Value), u_ = .tuple #[] ∧ Own w (fps [Res.bv o TOut sl bs]) [Res.bv o TOut sl' (bs ++ x.a.enc)] w' := by
  have hd := hx.data
  have hf := hx.conf
  have hc := hx.conf.wf
  have he := hx.ents
  have hle0 := x.enc_le hx
  have hle5 := hle0.2.2
  have hf1 := hf.vs
  have hf2 := hf.ls
  have hdl := dat_length x.data (by omega)
  have hol := numsB_length (ns := [u64 x.off]) (by simp [u64_lt])
  simp only [List.length_cons, List.length_nil] at hol
  have hh := MsgD.headB_le hx
  have hh2 : x.headB.length = (numsB [u64 x.kind, u64 x.src, u64 x.dst]).length + (numsB [x.term, x.index, x.logTerm, x.commit, x.round]).length + (numsB [fl x.flag]).length + (numsB [u64 (x.ents.length : Int)]).length := by simp [MsgD.headB]; omega
  refine fn_enter (args := [.pointer (some ⟨o, 0, none⟩), .agg (MsgD.cells x).toArray, .pointer (some ⟨eb, 0, none⟩), .pointer (some ⟨cb, 0, none⟩)]) Tryz.func49 rfl Tryz.ntmps49 rfl (show Own w (fps [Res.bv o TOut sl bs]) [Res.bv o TOut sl bs] w from hin) ?_
  refine c_reg ?_
  refine l_box rfl rfl (fun b5 => ?_)
  refine l_end ?_
  refine c_reg ?_
  refine l_mv rfl ?_
  refine l_fld (o := 0) rfl (by kernel_rfl) rfl ?_
  refine l_ldo 1 (v := .int .i64 x.kind) rfl rfl rfl (by kernel_rfl) rfl ?_
  refine l_fld (o := 1) rfl (by kernel_rfl) rfl ?_
  refine l_ldo 1 (v := .int .i64 x.src) rfl rfl rfl (by kernel_rfl) rfl ?_
  refine l_fld (o := 2) rfl (by kernel_rfl) rfl ?_
  refine l_ldo 1 (v := .int .i64 x.dst) rfl rfl rfl (by kernel_rfl) rfl ?_
  refine l_bsl (e := 3) (sz := 1) (vs := [.int .i64 x.kind, .int .i64 x.src, .int .i64 x.dst]) (by kernel_rfl) rfl rfl (by simp [Value.cells]) (by decide) rfl (fun b15 => ?_)
  refine l_call (by kernel_rfl) rfl rfl (fun w' hw => ?_)
  refine (ints_s o _ _ (.slice (some ⟨b15, 0, none⟩) 3 3) [x.kind, x.src, x.dst] w' (by first | assumption | omega | (simp <;> omega) | (constructor <;> (first | omega | (simp only [LenOk]; omega) | (simp <;> omega)))) (hw.rdVec 2 rfl [0] rfl rfl) (hw.give [0] rfl (by decide))).mono ?_
  rintro _ w1 ⟨sl'1_, rfl, hO⟩
  refine (?_ : CL _ _ _ _ _ _ (Own w (fps [Res.bv o TOut sl bs]) [Res.row b5 29 (MsgD.cells x), Res.vec 3 1 (.slice (some ⟨b15, 0, none⟩) 3 3) [x.kind, x.src, x.dst].length ([x.kind, x.src, x.dst].flatMap I1), Res.bv o TOut sl'1_ (bs ++ numsB ([x.kind, x.src, x.dst].map u64))])) w1 (hw.frameL [0] rfl hO)
  refine l_end ?_
  refine c_reg ?_
  refine l_mv rfl ?_
  refine l_fld (o := 3) rfl (by kernel_rfl) rfl ?_
  refine l_ldo 0 (v := .int .u64 (x.term : Nat)) rfl rfl rfl (by kernel_rfl) rfl ?_
  refine l_fld (o := 4) rfl (by kernel_rfl) rfl ?_
  refine l_ldo 0 (v := .int .u64 (x.index : Nat)) rfl rfl rfl (by kernel_rfl) rfl ?_
  refine l_fld (o := 5) rfl (by kernel_rfl) rfl ?_
  refine l_ldo 0 (v := .int .u64 (x.logTerm : Nat)) rfl rfl rfl (by kernel_rfl) rfl ?_
  refine l_fld (o := 6) rfl (by kernel_rfl) rfl ?_
  refine l_ldo 0 (v := .int .u64 (x.commit : Nat)) rfl rfl rfl (by kernel_rfl) rfl ?_
  refine l_fld (o := 7) rfl (by kernel_rfl) rfl ?_
  refine l_ldo 0 (v := .int .u64 (x.round : Nat)) rfl rfl rfl (by kernel_rfl) rfl ?_
  refine l_bsl (e := 23) (sz := 1) (vs := [.int .u64 (x.term : Nat), .int .u64 (x.index : Nat), .int .u64 (x.logTerm : Nat), .int .u64 (x.commit : Nat), .int .u64 (x.round : Nat)]) (by kernel_rfl) rfl rfl (by simp [Value.cells]) (by decide) rfl (fun b28 => ?_)
  refine l_call (by kernel_rfl) rfl rfl (fun w' hw => ?_)
  refine (nums_s o sl'1_ (bs ++ numsB ([x.kind, x.src, x.dst].map u64)) (.slice (some ⟨b28, 0, none⟩) 5 5) [x.term, x.index, x.logTerm, x.commit, x.round] w' (by have := hx.term; have := hx.index; have := hx.logTerm; have := hx.commit; have := hx.round; simp [*]) (by first | assumption | omega | (simp <;> omega) | (constructor <;> (first | omega | (simp only [LenOk]; omega) | (simp <;> omega)))) (hw.rdVec 3 rfl [2] rfl rfl) (hw.give [2] rfl (by decide))).mono ?_
  rintro _ w1 ⟨sl'2_, rfl, hO⟩
  refine (?_ : CL _ _ _ _ _ _ (Own w (fps [Res.bv o TOut sl bs]) [Res.row b5 29 (MsgD.cells x), Res.vec 3 1 (.slice (some ⟨b15, 0, none⟩) 3 3) [x.kind, x.src, x.dst].length ([x.kind, x.src, x.dst].flatMap I1), Res.vec 23 1 (.slice (some ⟨b28, 0, none⟩) 5 5) [x.term, x.index, x.logTerm, x.commit, x.round].length ([x.term, x.index, x.logTerm, x.commit, x.round].flatMap U1), Res.bv o TOut sl'2_ ((bs ++ numsB ([x.kind, x.src, x.dst].map u64)) ++ numsB [x.term, x.index, x.logTerm, x.commit, x.round])])) w1 (hw.frameL [2] rfl hO)
  refine l_end ?_
  refine c_reg ?_
  refine l_mv rfl ?_
  refine l_fld (o := 8) rfl (by kernel_rfl) rfl ?_
  refine l_ldo 0 (v := .bool x.flag) rfl rfl rfl (by kernel_rfl) rfl ?_
  refine l_bsl (e := 4) (sz := 1) (vs := [.bool x.flag]) (by kernel_rfl) rfl rfl (by simp [Value.cells]) (by decide) rfl (fun b33 => ?_)
  refine l_call (by kernel_rfl) rfl rfl (fun w' hw => ?_)
  refine (flags_s o sl'2_ ((bs ++ numsB ([x.kind, x.src, x.dst].map u64)) ++ numsB [x.term, x.index, x.logTerm, x.commit, x.round]) (.slice (some ⟨b33, 0, none⟩) 1 1) [x.flag] w' (by first | assumption | omega | (simp <;> omega) | (constructor <;> (first | omega | (simp only [LenOk]; omega) | (simp <;> omega)))) (hw.rdVec 4 rfl [3] rfl rfl) (hw.give [3] rfl (by decide))).mono ?_
  rintro _ w1 ⟨sl'3_, rfl, hO⟩
  refine (?_ : CL _ _ _ _ _ _ (Own w (fps [Res.bv o TOut sl bs]) [Res.row b5 29 (MsgD.cells x), Res.vec 3 1 (.slice (some ⟨b15, 0, none⟩) 3 3) [x.kind, x.src, x.dst].length ([x.kind, x.src, x.dst].flatMap I1), Res.vec 23 1 (.slice (some ⟨b28, 0, none⟩) 5 5) [x.term, x.index, x.logTerm, x.commit, x.round].length ([x.term, x.index, x.logTerm, x.commit, x.round].flatMap U1), Res.vec 4 1 (.slice (some ⟨b33, 0, none⟩) 1 1) [x.flag].length ([x.flag].flatMap B1), Res.bv o TOut sl'3_ (((bs ++ numsB ([x.kind, x.src, x.dst].map u64)) ++ numsB [x.term, x.index, x.logTerm, x.commit, x.round]) ++ numsB ([x.flag].map fl))])) w1 (hw.frameL [3] rfl hO)
  refine l_end ?_
  refine c_reg ?_
  refine l_mv rfl ?_
  refine l_fld (o := 9) rfl (by kernel_rfl) rfl ?_
  refine l_ldo 0 (v := x.ev) rfl rfl rfl (by kernel_rfl) rfl ?_
  refine l_lenS (len := x.ents.length) (cs := (x.ents.flatMap EntD.cells)) (by kernel_rfl) rfl (fun w' hw' => Own.rd rd_x.ev hw') rfl ?_
  refine l_bsl (e := 3) (sz := 1) (vs := [.int .i64 (x.ents.length : Nat)]) (by kernel_rfl) rfl rfl (by simp [Value.cells]) (by decide) rfl (fun b39 => ?_)
  refine l_call (by kernel_rfl) rfl rfl (fun w' hw => ?_)
  refine (ints_s o sl'3_ (((bs ++ numsB ([x.kind, x.src, x.dst].map u64)) ++ numsB [x.term, x.index, x.logTerm, x.commit, x.round]) ++ numsB ([x.flag].map fl)) (.slice (some ⟨b39, 0, none⟩) 1 1) [((x.ents.length : Nat) : Int)] w' (by first | assumption | omega | (simp <;> omega) | (constructor <;> (first | omega | (simp only [LenOk]; omega) | (simp <;> omega)))) (hw.rdVec 5 rfl [4] rfl rfl) (hw.give [4] rfl (by decide))).mono ?_
  rintro _ w1 ⟨sl'4_, rfl, hO⟩
  refine (?_ : CL _ _ _ _ _ _ (Own w (fps [Res.bv o TOut sl bs]) [Res.row b5 29 (MsgD.cells x), Res.vec 3 1 (.slice (some ⟨b15, 0, none⟩) 3 3) [x.kind, x.src, x.dst].length ([x.kind, x.src, x.dst].flatMap I1), Res.vec 23 1 (.slice (some ⟨b28, 0, none⟩) 5 5) [x.term, x.index, x.logTerm, x.commit, x.round].length ([x.term, x.index, x.logTerm, x.commit, x.round].flatMap U1), Res.vec 4 1 (.slice (some ⟨b33, 0, none⟩) 1 1) [x.flag].length ([x.flag].flatMap B1), Res.vec 3 1 (.slice (some ⟨b39, 0, none⟩) 1 1) [((x.ents.length : Nat) : Int)].length ([((x.ents.length : Nat) : Int)].flatMap I1), Res.bv o TOut sl'4_ ((((bs ++ numsB ([x.kind, x.src, x.dst].map u64)) ++ numsB [x.term, x.index, x.logTerm, x.commit, x.round]) ++ numsB ([x.flag].map fl)) ++ numsB ([((x.ents.length : Nat) : Int)].map u64))])) w1 (hw.frameL [4] rfl hO)
  refine l_end ?_
  refine c_seq ?_
  refine c_reg ?_
  refine l_fld (o := 9) rfl (by kernel_rfl) rfl ?_
  refine l_ldo 0 (v := x.ev) rfl rfl rfl (by kernel_rfl) rfl ?_
  refine l_lenS (len := x.ents.length) (cs := (x.ents.flatMap EntD.cells)) (by kernel_rfl) rfl (fun w' hw' => Own.rd rd_x.ev hw') rfl ?_
  refine l_mv rfl ?_
  refine l_end ?_
  refine c_block ?_
  refine c_loop2 (fun (k : Nat) (s : Value) => [(0, .pointer (some ⟨o, 0, none⟩)), (2, .pointer (some ⟨eb, 0, none⟩)), (3, .pointer (some ⟨cb, 0, none⟩)), (5, .pointer (some ⟨b5, 0, none⟩)), (42, x.ev), (43, .int .i64 (x.ents.length : Nat)), (44, .int .i64 (k : Nat))]) (fun (k : Nat) (s : Value) => k ≤ x.ents.length) (fun (k : Nat) (s : Value) => [Res.row b5 29 (MsgD.cells x), Res.bv o TOut s (bs ++ x.headB ++ entsD (x.ents.take k))]) (fun (k : Nat) (s : Value) => x.ents.length - k) (fun w' hw => ⟨0, sl'4_, ⟨rfl, rfl, rfl, rfl, rfl, rfl, rfl, trivial⟩, Nat.zero_le _, by have h := hw.sel [0, 5] rfl (by decide); simpa [MsgD.headB, entsD] using h⟩) (fun k s g hΦ => ?_)
  have hle := flatMap_take_le (fun e : EntD => e.enc) x.ents (k + 1)
  have hle2 : (entsD (x.ents.take k)).length ≤ (entsD x.ents).length := flatMap_take_le (fun e : EntD => e.enc) x.ents k
  have hle3 : (entsD x.ents).length ≤ 200000000 := by rw [entsD_eq]; exact hle0.2.1
  refine c_reg ?_
  refine l_lss rfl rfl rfl ?_
  refine l_end ?_
  refine c_seq ?_
  refine c_dec rfl (fun c1 => ?_) (fun c1 => ?_)
  ·
    have hew := hx.each _ (nth_mem (l := x.ents) (j := k) (by omega))
    rw [take_nth (by omega), List.flatMap_append] at hle
    simp only [List.length_append, List.flatMap_cons, List.flatMap_nil, List.append_nil] at hle
    have hcl : (entsD (x.ents.take k)).length + (nth x.ents k).enc.length ≤ (entsD x.ents).length := hle
    refine c_skipC ?_
    refine c_seq ?_
    refine c_block ?_
    refine c_reg ?_
    refine l_idxS (j := k) (sz := 5) (len := x.ents.length) (cs := (x.ents.flatMap EntD.cells)) rfl rfl (by kernel_rfl) (fun w' hw' => Own.rd rd_x.ev hw') rfl (by omega) rfl ?_
    refine l_ldSN (v := x.ev) (off := offV x.ev + k * 5) (k * 5 + 0) (cs := (x.ents.flatMap EntD.cells)) (EntD.cells (nth x.ents k)) rfl (by omega) (fun w' hw' => Own.rd rd_x.ev hw') (flat_atN (sz := 5) (fun _ => rfl) (nth_some (by omega)) (o := 0) (us := (EntD.cells (nth x.ents k))) (fun k u h => by rw [Nat.zero_add]; exact h)) (by kernel_rfl) rfl ?_
    refine l_new (v := .agg #[.int .u64 (0 : Nat), .int .u64 (0 : Nat), .int .i64 0, .int .i64 0, .slice none 0 0]) (by kernel_rfl) rfl (fun b7 => ?_)
    refine l_stN (cs := [.int .u64 (0 : Nat), .int .u64 (0 : Nat), .int .i64 0, .int .i64 0, .slice none 0 0]) (vs := [.int .u64 ((nth x.ents k).index : Nat), .int .u64 ((nth x.ents k).term : Nat), .int .i64 ((nth x.ents k).kind), .int .i64 ((nth x.ents k).delta), (nth x.ents k).dv]) 2 rfl rfl rfl (by kernel_rfl) (allc_cons rfl (allc_cons rfl (allc_cons rfl (allc_cons rfl (allc_cons (Sl.cell1 (Rd.φ ((rd_x.ev_all _ (nth_mem (by omega))).dv))) allc_nil))))) (Nat.le_of_ble_eq_true rfl) ?_
    refine l_end ?_
    refine c_last ?_
    refine l_fld (o := 1) rfl (by kernel_rfl) rfl ?_
    refine l_ldq (v := .func (.func 91) #[] #[]) rfl (heb.φ.cell rfl) (heb.far _ (by simp [Res.row])) (by kernel_rfl) rfl ?_
    refine l_mv rfl ?_
    refine l_ldr (cs := (EntD.cells (nth x.ents k))) 2 rfl rfl (by kernel_rfl) rfl ?_
    refine l_callv (fst := []) (cap := []) rfl (by kernel_rfl) rfl rfl (fun w' hw => ?_)
    refine (entWrite_s o s (bs ++ x.headB ++ entsD (x.ents.take k)) (nth x.ents k) w' (by first | assumption | omega | (simp <;> omega) | (constructor <;> (first | omega | (simp only [LenOk]; omega) | (simp <;> omega)))) (by first | assumption | omega | (simp <;> omega) | (constructor <;> (first | omega | (simp only [LenOk]; omega) | (simp <;> omega)))) ((rd_x.ev_all _ (nth_mem (by omega))).at hw [1] rfl) (hw.give [1] rfl (by decide))).mono ?_
    rintro _ w1 ⟨sl'5_, rfl, hO⟩
    refine (?_ : CL _ _ _ _ _ _ (Own w (fps [Res.bv o TOut sl bs]) [Res.row b5 29 (MsgD.cells x), Res.row b7 75 (EntD.cells (nth x.ents k)), Res.bv o TOut sl'5_ ((bs ++ x.headB ++ entsD (x.ents.take k)) ++ (nth x.ents k).enc)])) w1 (hw.frameL [1] rfl hO)
    refine l_end ?_
    refine c_last ?_
    refine l_add rfl rfl (wi64 (by omega)) rfl ?_
    refine l_mv rfl ?_
    exact l_nil (fun w' hw => ⟨k + 1, sl'5_, ⟨rfl, rfl, rfl, rfl, rfl, rfl, rfl, trivial⟩, (by omega), by rw [take_nth (by omega)]; have h := hw.sel [0, 2] rfl (by decide); simpa [entsD] using h, (by omega)⟩)
  ·
    refine c_exitC rfl ?_
    refine c_reg ?_
    refine l_fld (o := 1) rfl (by kernel_rfl) rfl ?_
    refine l_ldq (v := .func (.func 85) #[] #[]) rfl (hcb.φ.cell rfl) (hcb.far _ (by simp [Res.row])) (by kernel_rfl) rfl ?_
    refine l_mv rfl ?_
    refine l_fld (o := 10) rfl (by kernel_rfl) rfl ?_
    refine l_ldoN (cs := (MsgD.cells x)) 0 (ConfD.cells x.conf) rfl rfl (sub_at' 10 rfl) (by kernel_rfl) rfl ?_
    refine l_callv (fst := []) (cap := []) rfl (by kernel_rfl) rfl rfl (fun w' hw => ?_)
    refine (confWrite_s o s (bs ++ x.headB ++ entsD (x.ents.take k)) x.conf w' (by first | assumption | omega | (simp <;> omega) | (constructor <;> (first | omega | (simp only [LenOk]; omega) | (simp <;> omega)))) (rd_x.conf.at hw [1] rfl) (hw.give [1] rfl (by decide))).mono ?_
    rintro _ w1 ⟨sl'6_, rfl, hO⟩
    refine (?_ : CL _ _ _ _ _ _ (Own w (fps [Res.bv o TOut sl bs]) [Res.row b5 29 (MsgD.cells x), Res.bv o TOut sl'6_ ((bs ++ x.headB ++ entsD (x.ents.take k)) ++ x.conf.enc)])) w1 (hw.frameL [1] rfl hO)
    refine l_end ?_
    refine c_reg ?_
    refine l_mv rfl ?_
    refine l_fld (o := 12) rfl (by kernel_rfl) rfl ?_
    refine l_ldo 0 (v := .int .i64 x.off) rfl rfl rfl (by kernel_rfl) rfl ?_
    refine l_bsl (e := 3) (sz := 1) (vs := [.int .i64 x.off]) (by kernel_rfl) rfl rfl (by simp [Value.cells]) (by decide) rfl (fun b63 => ?_)
    refine l_call (by kernel_rfl) rfl rfl (fun w' hw => ?_)
    refine (ints_s o sl'6_ ((bs ++ x.headB ++ entsD (x.ents.take k)) ++ x.conf.enc) (.slice (some ⟨b63, 0, none⟩) 1 1) [x.off] w' (by first | assumption | omega | (simp <;> omega) | (constructor <;> (first | omega | (simp only [LenOk]; omega) | (simp <;> omega)))) (hw.rdVec 2 rfl [1] rfl rfl) (hw.give [1] rfl (by decide))).mono ?_
    rintro _ w1 ⟨sl'7_, rfl, hO⟩
    refine (?_ : CL _ _ _ _ _ _ (Own w (fps [Res.bv o TOut sl bs]) [Res.row b5 29 (MsgD.cells x), Res.vec 3 1 (.slice (some ⟨b63, 0, none⟩) 1 1) [x.off].length ([x.off].flatMap I1), Res.bv o TOut sl'7_ (((bs ++ x.headB ++ entsD (x.ents.take k)) ++ x.conf.enc) ++ numsB ([x.off].map u64))])) w1 (hw.frameL [1] rfl hO)
    refine l_end ?_
    refine c_last ?_
    refine l_mv rfl ?_
    refine l_fld (o := 13) rfl (by kernel_rfl) rfl ?_
    refine l_ldo 0 (v := x.dv) rfl rfl rfl (by kernel_rfl) rfl ?_
    refine l_bsl1 (e := 22) (vs := [x.dv]) (by kernel_rfl) rfl rfl (allc_cons (Sl.cell1 (Rd.φ rd_x.dv)) allc_nil) (by decide) rfl (fun b68 => ?_)
    refine l_call (by kernel_rfl) rfl rfl (fun w' hw => ?_)
    refine (data_s o sl'7_ (((bs ++ x.headB ++ entsD (x.ents.take k)) ++ x.conf.enc) ++ numsB ([x.off].map u64)) (.slice (some ⟨b68, 0, none⟩) 1 1) [(x.dv, x.data)] w' (by simp [datsB]; omega) (by show 1 ≤ _; omega) (hw.rdVec 3 rfl [2] rfl rfl) (all_cons (hw.rdTo rd_x.dv [2] rfl) (fun p hp => by cases hp)) (hw.give [2] rfl (by decide))).mono ?_
    rintro _ w1 ⟨sl'8_, rfl, hO⟩
    refine (?_ : CL _ _ _ _ _ _ (Own w (fps [Res.bv o TOut sl bs]) [Res.row b5 29 (MsgD.cells x), Res.vec 3 1 (.slice (some ⟨b63, 0, none⟩) 1 1) [x.off].length ([x.off].flatMap I1), Res.vec 22 1 (.slice (some ⟨b68, 0, none⟩) 1 1) [(x.dv, x.data)].length ([(x.dv, x.data)].flatMap pv), Res.bv o TOut sl'8_ ((((bs ++ x.headB ++ entsD (x.ents.take k)) ++ x.conf.enc) ++ numsB ([x.off].map u64)) ++ datsB [(x.dv, x.data)])])) w1 (hw.frameL [2] rfl hO)
    exact l_nil (ret0 rfl (fun w' hw => ⟨sl'8_, rfl, by have h := hw.one 3 rfl; rw [List.take_of_length_le (by omega)] at h; rw [x.enc_eq hx]; simpa [datsB] using h⟩))
theorem msgs_s (w : World) : Rets Tryz.prog 17 #[] w fun u_ w' => ∃ (nb : Nat) (cb : Nat) (eb : Nat), u_ = .agg #[.func (.func 46) #[] #[.pointer (some ⟨nb, 0, none⟩), .pointer (some ⟨cb, 0, none⟩), .pointer (some ⟨eb, 0, none⟩)], .func (.func 49) #[] #[.pointer (some ⟨eb, 0, none⟩), .pointer (some ⟨cb, 0, none⟩)], .func (.func 54) #[] #[.pointer (some ⟨eb, 0, none⟩), .pointer (some ⟨cb, 0, none⟩)]] ∧ Own w [] [Res.row nb 123 [.func (.func 45) #[] #[]], Res.row cb 115 [.func (.func 80) #[] #[], .func (.func 85) #[] #[], .func (.func 87) #[] #[]], Res.row eb 121 [.func (.func 89) #[] #[], .func (.func 91) #[] #[], .func (.func 92) #[] #[]]] w' := by
  refine fn_enter (args := []) Tryz.func17 rfl Tryz.ntmps17 rfl (Own.start w) ?_
  refine c_reg ?_
  refine l_new (v := .agg #[.nilFunc, .nilFunc, .nilFunc]) (by kernel_rfl) rfl (fun b0 => ?_)
  refine l_end ?_
  refine c_reg ?_
  refine l_call (by kernel_rfl) rfl rfl (fun w' hw => ?_)
  refine (confs_s w').mono ?_
  rintro _ w1 ⟨rfl, hO⟩
  refine (?_ : CL _ _ _ _ _ _ (Own w [] [Res.row b0 67 [.nilFunc, .nilFunc, .nilFunc]])) w1 (hw.frame0 hO)
  refine l_call (by kernel_rfl) rfl rfl (fun w' hw => ?_)
  refine (entries_s w').mono ?_
  rintro _ w1 ⟨rfl, hO⟩
  refine (?_ : CL _ _ _ _ _ _ (Own w [] [Res.row b0 67 [.nilFunc, .nilFunc, .nilFunc]])) w1 (hw.frame0 hO)
  refine l_new (v := .agg #[.nilFunc, .nilFunc, .nilFunc]) (by kernel_rfl) rfl (fun b1 => ?_)
  refine l_new (v := .agg #[.nilFunc, .nilFunc, .nilFunc]) (by kernel_rfl) rfl (fun b2 => ?_)
  refine l_stN (cs := [.nilFunc, .nilFunc, .nilFunc]) (vs := [.func (.func 80) #[] #[], .func (.func 85) #[] #[], .func (.func 87) #[] #[]]) 1 rfl rfl rfl (by kernel_rfl) (allc_cons rfl (allc_cons rfl (allc_cons rfl allc_nil))) (Nat.le_of_ble_eq_true rfl) ?_
  refine l_stN (cs := [.nilFunc, .nilFunc, .nilFunc]) (vs := [.func (.func 89) #[] #[], .func (.func 91) #[] #[], .func (.func 92) #[] #[]]) 2 rfl rfl rfl (by kernel_rfl) (allc_cons rfl (allc_cons rfl (allc_cons rfl allc_nil))) (Nat.le_of_ble_eq_true rfl) ?_
  refine l_end ?_
  refine c_reg ?_
  refine l_new (v := .nilFunc) (by kernel_rfl) rfl (fun b3 => ?_)
  refine l_st (cs := [.nilFunc]) 3 rfl rfl rfl (by kernel_rfl) rfl (Nat.le_of_ble_eq_true rfl) ?_
  refine l_end ?_
  refine c_reg ?_
  refine l_fn (va := []) (vb := [.pointer (some ⟨b3, 0, none⟩), .pointer (some ⟨b1, 0, none⟩), .pointer (some ⟨b2, 0, none⟩)]) rfl rfl rfl ?_
  refine l_fn (va := []) (vb := [.pointer (some ⟨b2, 0, none⟩), .pointer (some ⟨b1, 0, none⟩)]) rfl rfl rfl ?_
  refine l_fn (va := []) (vb := [.pointer (some ⟨b2, 0, none⟩), .pointer (some ⟨b1, 0, none⟩)]) rfl rfl rfl ?_
  refine l_bld (cs := [.func (.func 46) #[] #[.pointer (some ⟨b3, 0, none⟩), .pointer (some ⟨b1, 0, none⟩), .pointer (some ⟨b2, 0, none⟩)], .func (.func 49) #[] #[.pointer (some ⟨b2, 0, none⟩), .pointer (some ⟨b1, 0, none⟩)], .func (.func 54) #[] #[.pointer (some ⟨b2, 0, none⟩), .pointer (some ⟨b1, 0, none⟩)]]) (z := [.nilFunc, .nilFunc, .nilFunc]) (pl := [(0, 1), (1, 1), (2, 1)]) (by kernel_rfl) (by kernel_rfl) rfl ?_
  refine l_stN (cs := [.nilFunc, .nilFunc, .nilFunc]) (vs := [.func (.func 46) #[] #[.pointer (some ⟨b3, 0, none⟩), .pointer (some ⟨b1, 0, none⟩), .pointer (some ⟨b2, 0, none⟩)], .func (.func 49) #[] #[.pointer (some ⟨b2, 0, none⟩), .pointer (some ⟨b1, 0, none⟩)], .func (.func 54) #[] #[.pointer (some ⟨b2, 0, none⟩), .pointer (some ⟨b1, 0, none⟩)]]) 0 rfl rfl rfl (by kernel_rfl) (allc_cons rfl (allc_cons rfl (allc_cons rfl allc_nil))) (Nat.le_of_ble_eq_true rfl) ?_
  refine l_end ?_
  exact c_ret (retc (cs := [.func (.func 46) #[] #[.pointer (some ⟨b3, 0, none⟩), .pointer (some ⟨b1, 0, none⟩), .pointer (some ⟨b2, 0, none⟩)], .func (.func 49) #[] #[.pointer (some ⟨b2, 0, none⟩), .pointer (some ⟨b1, 0, none⟩)], .func (.func 54) #[] #[.pointer (some ⟨b2, 0, none⟩), .pointer (some ⟨b1, 0, none⟩)]]) rfl rfl (by kernel_rfl) (Own.rowCells (i := 0) rfl) (fun w' hw => ⟨b3, b1, b2, rfl, hw.sel [3, 1, 2] rfl (by decide)⟩))
-- no function (scupper/msg.kind[scupper/api.Msg]).bytes
-- no function scupper/msg.Msg
-- no function scupper/scupperref03.Msg
theorem sum_data (l : List EntD) : (l.map fun e => e.data.length).sum = ((l.map EntD.toEntA).map fun e => e.data.length).sum := by rw [List.map_map]; rfl
theorem MsgD.own_wf {x : MsgD} (h : x.wf) {es : List EntD} (e : es.map EntD.toEntA = x.ents.map EntD.toEntA) (a b c d : Value) : ({ x with ev := a, ents := es, conf := ({ vv := b, vs := x.conf.vs, lv := c, ls := x.conf.ls } : ConfD), dv := d } : MsgD).wf :=
  ⟨h.term, h.index, h.logTerm, h.commit, h.round, by have := congrArg List.length e; simp only [List.length_map] at this; have := h.ents; dsimp only; omega,
    fun q hq => by have hm := List.mem_map_of_mem (f := EntD.toEntA) hq; rw [e] at hm; obtain ⟨q', h1, h2⟩ := List.mem_map.1 hm; rw [← h2]; exact h.each q' h1,
    ⟨h.conf.vs, h.conf.ls⟩, h.fewer, h.data, by dsimp only; rw [sum_data, e, ← sum_data]; exact h.all⟩
theorem MsgD.own_a {x : MsgD} {es : List EntD} (e : es.map EntD.toEntA = x.ents.map EntD.toEntA) (a b c d : Value) : ({ x with ev := a, ents := es, conf := ({ vv := b, vs := x.conf.vs, lv := c, ls := x.conf.ls } : ConfD), dv := d } : MsgD).a = x.a := by
  simp only [MsgD.a, ConfD.a, e]
-- no function scupper/scupperlaw03.MsgTalks
end Go.Proofs.YtlkoekhjegaimaaGreat
