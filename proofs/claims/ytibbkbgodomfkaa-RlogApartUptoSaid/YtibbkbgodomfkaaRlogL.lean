/-
  THE WALKS OF what the laws of the log do: a call on both, are they alike, what has grown.
-/
import Derived.Test.YtibbkbgodomfkaaRlogR
set_option linter.unusedVariables false
set_option maxRecDepth 10000
namespace Go.Proofs.Ytibbkbgodomfkaa
open Go Go.Sc Go.Proofs

theorem str_eq' {l m : List UInt8} : ((⟨l.toArray⟩ : ByteArray) = ⟨m.toArray⟩) ↔ l = m := by
  constructor
  · intro h; have := congrArg (fun b : ByteArray => b.data.toList) h; simpa using this
  · intro h; rw [h]
theorem entA_eq {x y : EntA} : x = y ↔ (((((x.index : Nat) : Int) = ((y.index : Nat) : Int) ∧ ((x.term : Nat) : Int) = ((y.term : Nat) : Int)) ∧ x.kind = y.kind) ∧ x.delta = y.delta) ∧ (⟨x.data.toArray⟩ : ByteArray) = ⟨y.data.toArray⟩ := by
  rw [str_eq']; cases x; cases y; simp only [EntA.mk.injEq, Int.ofNat_inj, and_assoc]
theorem sameEnt_s (x y : EntD) (w : World) (hx : x.data.length ≤ 1000000000) (hy : y.data.length ≤ 1000000000) (rd_x : EntD.rd x w []) (rd_y : EntD.rd y w []) : Rets Try.prog 43 #[.agg (EntD.cells x).toArray, .agg (EntD.cells y).toArray] w fun u_ w' => u_ = .bool (decide (x.toEntA = y.toEntA)) ∧ Own w [] [] w' := by
  refine fn_enter (args := [.agg (EntD.cells x).toArray, .agg (EntD.cells y).toArray]) Try.func43 rfl Try.ntmps43 rfl (Own.start w) ?_
  refine c_reg ?_
  refine l_box rfl rfl (fun b2 => ?_)
  refine l_box rfl rfl (fun b3 => ?_)
  refine l_as rfl ?_
  refine l_end ?_
  refine c_reg ?_
  refine l_fld (o := 0) rfl (by kernel_rfl) rfl ?_
  refine l_ldo 0 (v := .int .u64 (x.index : Nat)) rfl rfl rfl (by kernel_rfl) rfl ?_
  refine l_fld (o := 0) rfl (by kernel_rfl) rfl ?_
  refine l_ldo 1 (v := .int .u64 (y.index : Nat)) rfl rfl rfl (by kernel_rfl) rfl ?_
  refine l_eq rfl rfl rfl ?_
  refine l_mv rfl ?_
  refine l_band (q := ((x.index : Nat) : Int) = ((y.index : Nat) : Int)) 5 5 [15, 14, 13, 12, 11] (((x.term : Nat) : Int) = ((y.term : Nat) : Int)) rfl rfl rfl rfl rfl rfl trivial rfl (fun h1_5 => ?_) (fun g1_11 => ?_)
  ·
    refine l_on rfl (gT h1_5) ?_
    refine l_fld (o := 1) rfl (by kernel_rfl) rfl ?_
    refine l_on rfl (gT h1_5) ?_
    refine l_ldo 0 (v := .int .u64 (x.term : Nat)) rfl rfl rfl (by kernel_rfl) rfl ?_
    refine l_on rfl (gT h1_5) ?_
    refine l_fld (o := 1) rfl (by kernel_rfl) rfl ?_
    refine l_on rfl (gT h1_5) ?_
    refine l_ldo 1 (v := .int .u64 (y.term : Nat)) rfl rfl rfl (by kernel_rfl) rfl ?_
    refine l_on rfl (gT h1_5) ?_
    refine l_eq rfl rfl rfl ?_
    exact l_nil (fun w' hw => ⟨(by repeat (first | exact Out.refl _ _ | refine Out.upd rfl ?_ | refine Out.msk rfl ?_)), rfl, hw⟩)
  refine l_mv rfl ?_
  refine l_band (q := (((x.index : Nat) : Int) = ((y.index : Nat) : Int)) ∧ (((x.term : Nat) : Int) = ((y.term : Nat) : Int))) 5 12 [22, 21, 20, 19, 18] (x.kind = y.kind) rfl rfl rfl rfl rfl rfl trivial rfl (fun h1_12 => ?_) (fun g1_18 => ?_)
  ·
    refine l_on rfl (gT h1_12) ?_
    refine l_fld (o := 2) rfl (by kernel_rfl) rfl ?_
    refine l_on rfl (gT h1_12) ?_
    refine l_ldo 0 (v := .int .i64 x.kind) rfl rfl rfl (by kernel_rfl) rfl ?_
    refine l_on rfl (gT h1_12) ?_
    refine l_fld (o := 2) rfl (by kernel_rfl) rfl ?_
    refine l_on rfl (gT h1_12) ?_
    refine l_ldo 1 (v := .int .i64 y.kind) rfl rfl rfl (by kernel_rfl) rfl ?_
    refine l_on rfl (gT h1_12) ?_
    refine l_eq rfl rfl rfl ?_
    exact l_nil (fun w' hw => ⟨(by repeat (first | exact Out.refl _ _ | refine Out.upd rfl ?_ | refine Out.msk rfl ?_)), rfl, hw⟩)
  refine l_mv rfl ?_
  refine l_band (q := ((((x.index : Nat) : Int) = ((y.index : Nat) : Int)) ∧ (((x.term : Nat) : Int) = ((y.term : Nat) : Int))) ∧ (x.kind = y.kind)) 5 19 [29, 28, 27, 26, 25] (x.delta = y.delta) rfl rfl rfl rfl rfl rfl trivial rfl (fun h1_19 => ?_) (fun g1_25 => ?_)
  ·
    refine l_on rfl (gT h1_19) ?_
    refine l_fld (o := 3) rfl (by kernel_rfl) rfl ?_
    refine l_on rfl (gT h1_19) ?_
    refine l_ldo 0 (v := .int .i64 x.delta) rfl rfl rfl (by kernel_rfl) rfl ?_
    refine l_on rfl (gT h1_19) ?_
    refine l_fld (o := 3) rfl (by kernel_rfl) rfl ?_
    refine l_on rfl (gT h1_19) ?_
    refine l_ldo 1 (v := .int .i64 y.delta) rfl rfl rfl (by kernel_rfl) rfl ?_
    refine l_on rfl (gT h1_19) ?_
    refine l_eq rfl rfl rfl ?_
    exact l_nil (fun w' hw => ⟨(by repeat (first | exact Out.refl _ _ | refine Out.upd rfl ?_ | refine Out.msk rfl ?_)), rfl, hw⟩)
  refine l_mv rfl ?_
  refine l_band (q := (((((x.index : Nat) : Int) = ((y.index : Nat) : Int)) ∧ (((x.term : Nat) : Int) = ((y.term : Nat) : Int))) ∧ (x.kind = y.kind)) ∧ (x.delta = y.delta)) 7 26 [38, 37, 36, 35, 34, 33, 32] ((⟨x.data.toArray⟩ : ByteArray) = (⟨y.data.toArray⟩ : ByteArray)) rfl rfl rfl rfl rfl rfl trivial rfl (fun h1_26 => ?_) (fun g1_34 => ?_)
  ·
    refine l_on rfl (gT h1_26) ?_
    refine l_fld (o := 4) rfl (by kernel_rfl) rfl ?_
    refine l_on rfl (gT h1_26) ?_
    refine l_ldo 0 (v := x.dv) rfl rfl rfl (by kernel_rfl) rfl ?_
    refine l_on rfl (gT h1_26) ?_
    refine l_b2s (bs := x.data) (by kernel_rfl) (by kernel_rfl) rfl (fun w' hw' => Own.rd rd_x.dv hw') rfl ?_
    refine l_on rfl (gT h1_26) ?_
    refine l_fld (o := 4) rfl (by kernel_rfl) rfl ?_
    refine l_on rfl (gT h1_26) ?_
    refine l_ldo 1 (v := y.dv) rfl rfl rfl (by kernel_rfl) rfl ?_
    refine l_on rfl (gT h1_26) ?_
    refine l_b2s (bs := y.data) (by kernel_rfl) (by kernel_rfl) rfl (fun w' hw' => Own.rd rd_y.dv hw') rfl ?_
    refine l_on rfl (gT h1_26) ?_
    refine l_seq rfl rfl rfl ?_
    exact l_nil (fun w' hw => ⟨(by repeat (first | exact Out.refl _ _ | refine Out.upd rfl ?_ | refine Out.msk rfl ?_)), rfl, hw⟩)
  refine l_as rfl ?_
  refine l_end ?_
  exact c_ret (ret1 (v := .bool (decide (((((((x.index : Nat) : Int) = ((y.index : Nat) : Int)) ∧ (((x.term : Nat) : Int) = ((y.term : Nat) : Int))) ∧ (x.kind = y.kind)) ∧ (x.delta = y.delta)) ∧ ((⟨x.data.toArray⟩ : ByteArray) = (⟨y.data.toArray⟩ : ByteArray))))) rfl rfl (fun w' hw => ⟨(by congr 1; exact decide_eq_decide.2 (by exact entA_eq.symm)), hw.drop⟩))
theorem sameEnts_s (v : Value) (l : List EntD) (u : Value) (m : List EntD) (w : World) (hl : LenOk l.length) (hm : LenOk m.length) (hx : ∀ e ∈ l, e.data.length ≤ 1000000000) (hy : ∀ e ∈ m, e.data.length ≤ 1000000000) (hv : Rd w [] (Res.sl v l.length (l.flatMap EntD.cells))) (all_hv : ∀ p ∈ l, EntD.rd p w []) (hu : Rd w [] (Res.sl u m.length (m.flatMap EntD.cells))) (all_hu : ∀ p ∈ m, EntD.rd p w []) : Rets Try.prog 35 #[v, u] w fun u_ w' => u_ = .bool (decide (l.map EntD.toEntA = m.map EntD.toEntA)) ∧ Own w [] [] w' := by
  refine fn_enter (args := [v, u]) Try.func35 rfl Try.ntmps35 rfl (Own.start w) ?_
  refine c_reg ?_
  refine l_as rfl ?_
  refine l_end ?_
  refine c_seq ?_
  refine c_reg ?_
  refine l_as rfl ?_
  refine l_end ?_
  refine c_block ?_
  refine c_loop1 (fun (k : Nat) => [(0, v), (1, u), (5, .int .i64 (k : Nat))]) (fun (k : Nat) => k ≤ l.length ∧ k ≤ m.length ∧ (l.take k).map EntD.toEntA = (m.take k).map EntD.toEntA) (fun (k : Nat) => []) (fun (k : Nat) => l.length - k) (fun w' hw => ⟨0, ⟨rfl, rfl, rfl, trivial⟩, ⟨Nat.zero_le _, Nat.zero_le _, by simp⟩, hw⟩) (fun k g hΦ => ?_)
  refine c_seq ?_
  refine c_reg ?_
  refine l_mv rfl ?_
  refine l_mv rfl ?_
  refine l_lenS (len := l.length) (cs := (l.flatMap EntD.cells)) (by kernel_rfl) rfl (fun w' hw' => Own.rd hv hw') rfl ?_
  refine l_lss rfl rfl rfl ?_
  refine l_mv rfl ?_
  refine l_band (q := ((k : Nat) : Int) < ((l.length : Nat) : Int)) 4 4 [14, 13, 12, 11] (((k : Nat) : Int) < ((m.length : Nat) : Int)) rfl rfl rfl rfl rfl rfl trivial rfl (fun h2_4 => ?_) (fun g2_9 => ?_)
  ·
    refine l_on rfl (gT h2_4) ?_
    refine l_mv rfl ?_
    refine l_on rfl (gT h2_4) ?_
    refine l_mv rfl ?_
    refine l_on rfl (gT h2_4) ?_
    refine l_lenS (len := m.length) (cs := (m.flatMap EntD.cells)) (by kernel_rfl) rfl (fun w' hw' => Own.rd hu hw') rfl ?_
    refine l_on rfl (gT h2_4) ?_
    refine l_lss rfl rfl rfl ?_
    exact l_nil (fun w' hw => ⟨(by repeat (first | exact Out.refl _ _ | refine Out.upd rfl ?_ | refine Out.msk rfl ?_)), rfl, hw⟩)
  refine l_end ?_
  refine c_dec rfl (fun c1 => ?_) (fun c1 => ?_)
  ·
    refine c_skipC ?_
    refine c_seq ?_
    refine c_block ?_
    refine c_seq ?_
    refine c_heldo [] rfl (by decide) (by kernel_rfl) (fun w' hw hS => ?_)
    refine h_take 0 rfl (by kernel_rfl) (by kernel_rfl) (by kernel_rfl) (v_mv) rfl hS ?_
    refine h_take 1 rfl (by kernel_rfl) (by kernel_rfl) (by kernel_rfl) (v_mv) rfl hS ?_
    refine h_take 2 rfl (by kernel_rfl) (by kernel_rfl) (by kernel_rfl) (v_idxS (j := k) (sz := 5) (len := l.length) (cs := (l.flatMap EntD.cells)) rfl rfl (by kernel_rfl) (fun w' hw' => Own.rd hv hw') rfl (by omega)) rfl hS ?_
    refine h_take 3 rfl (by kernel_rfl) (by kernel_rfl) (by kernel_rfl) (v_ldSN (k * 5 + 0) (cs := (l.flatMap EntD.cells)) (EntD.cells (nth l k)) rfl (by omega) (fun w' hw' => Own.rd hv hw') (flat_atN (sz := 5) (fun _ => rfl) (nth_some (by omega)) (o := 0) (us := (EntD.cells (nth l k))) (fun k u h => by rw [Nat.zero_add]; exact h)) (by kernel_rfl)) rfl hS ?_
    refine h_take 4 rfl (by kernel_rfl) (by kernel_rfl) (by kernel_rfl) (v_mv) rfl hS ?_
    refine h_take 5 rfl (by kernel_rfl) (by kernel_rfl) (by kernel_rfl) (v_mv) rfl hS ?_
    refine h_take 6 rfl (by kernel_rfl) (by kernel_rfl) (by kernel_rfl) (v_idxS (j := k) (sz := 5) (len := m.length) (cs := (m.flatMap EntD.cells)) rfl rfl (by kernel_rfl) (fun w' hw' => Own.rd hu hw') rfl (by omega)) rfl hS ?_
    refine h_take 7 rfl (by kernel_rfl) (by kernel_rfl) (by kernel_rfl) (v_ldSN (k * 5 + 0) (cs := (m.flatMap EntD.cells)) (EntD.cells (nth m k)) rfl (by omega) (fun w' hw' => Own.rd hu hw') (flat_atN (sz := 5) (fun _ => rfl) (nth_some (by omega)) (o := 0) (us := (EntD.cells (nth m k))) (fun k u h => by rw [Nat.zero_add]; exact h)) (by kernel_rfl)) rfl hS ?_
    refine h_one 8 (by kernel_rfl) rfl hw ?_
    refine l_call (by kernel_rfl) rfl rfl (fun w' hw => ?_)
    refine (sameEnt_s (nth l k) (nth m k) w' (hx _ (nth_mem (by omega))) (hy _ (nth_mem (by omega))) ((all_hv _ (nth_mem (by omega))).at0 hw) ((all_hu _ (nth_mem (by omega))).at0 hw)).mono ?_
    rintro _ w1 ⟨rfl, hO⟩
    refine (?_ : CL _ _ _ _ _ _ (Own w [] [])) w1 (hw.frame0 hO)
    refine l_nil (fun w' hw => ?_)
    have hS := hw.sel [] rfl (by decide)
    refine ⟨hS, ?_⟩
    refine h_take 9 rfl (by kernel_rfl) (by kernel_rfl) (by kernel_rfl) (v_notp (q := (nth l k).toEntA = (nth m k).toEntA) rfl) rfl hS ?_
    refine h_done (by kernel_rfl) ?_
    refine (?_ : C _ _ _ _ _ _ _ (Own w [] [])) _ hw
    refine c_dec rfl (fun c2 => ?_) (fun c2 => ?_)
    ·
      refine c_reg ?_
      refine l_as rfl ?_
      refine l_end ?_
      exact c_ret (ret1 (v := .bool false) rfl rfl (fun w' hw => ⟨(by rw [decide_eq_false]; intro h; apply c2; have h1 := nth_map (g := EntD.toEntA) (l := l) (j := k) (by omega); have h2 := nth_map (g := EntD.toEntA) (l := m) (j := k) (by omega); rw [← h1, ← h2, h]), hw.drop⟩))
    ·
      refine c_skipC ?_
      refine c_last ?_
      refine l_mv rfl ?_
      refine l_add rfl rfl (wi64 (by omega)) rfl ?_
      refine l_as rfl ?_
      exact l_nil (fun w' hw => ⟨k + 1, ⟨rfl, rfl, rfl, trivial⟩, ⟨by omega, by omega, by rw [take_nth (by omega), take_nth (by omega), List.map_append, List.map_append, hΦ.2.2]; simp only [List.map_cons, List.map_nil]; rw [Decidable.not_not.1 c2]⟩, hw, (by omega)⟩)
  ·
    refine c_exitC rfl ?_
    refine c_reg ?_
    refine l_mv rfl ?_
    refine l_lenS (len := l.length) (cs := (l.flatMap EntD.cells)) (by kernel_rfl) rfl (fun w' hw' => Own.rd hv hw') rfl ?_
    refine l_mv rfl ?_
    refine l_lenS (len := m.length) (cs := (m.flatMap EntD.cells)) (by kernel_rfl) rfl (fun w' hw' => Own.rd hu hw') rfl ?_
    refine l_eq rfl rfl rfl ?_
    refine l_as rfl ?_
    refine l_end ?_
    exact c_ret (ret1 (v := .bool (decide (((l.length : Nat) : Int) = ((m.length : Nat) : Int)))) rfl rfl (fun w' hw => ⟨(by congr 1; exact decide_eq_decide.2 ⟨fun h => by have h2 := hΦ.2.2; rw [List.take_of_length_le (by omega), List.take_of_length_le (by omega)] at h2; exact h2, fun h => by have := congrArg List.length h; simp only [List.length_map] at this; omega⟩), hw.drop⟩))

structure ActD where
  kind : Int
  n : Int
  index : Nat
  term : Nat
  lv : Value
  list : List EntD
  deriving Inhabited
structure ActD.wf (x : ActD) : Prop where
  index : x.index < 18446744073709551616
  term : x.term < 18446744073709551616
  list : x.list.length ≤ 1048576
  each : ∀ e ∈ x.list, e.wf
def ActD.cells (x : ActD) : List Value := [.int .i64 x.kind, .int .i64 x.n, .int .u64 x.index, .int .u64 x.term, x.lv]
structure ActD.rd (x : ActD) (w : World) (S : List Nat) : Prop where
  lv : Rd w S (Res.sl x.lv x.list.length (x.list.flatMap EntD.cells))
  lv_all : ∀ p ∈ x.list, EntD.rd p w S
theorem ActD.rd.at0 {x : ActD} {w0 w : World} {S : List Nat} {L : List Res} (h : x.rd w0 S) (hw : Own w0 S L w) : x.rd w [] := ⟨hw.rd0 h.lv, fun p hp => (h.lv_all p hp).at0 hw⟩
theorem ActD.rd.at {x : ActD} {w0 w : World} {S : List Nat} {L Lin : List Res} (h : x.rd w0 S) (hw : Own w0 S L w) (m : List Nat) (hm : m.mapM (fun i => L[i]?) = some Lin) : x.rd w (fps Lin) := ⟨hw.rdTo h.lv m hm, fun p hp => (h.lv_all p hp).at hw m hm⟩
def LogA.act (x : LogA) (a : ActD) : LogA := if a.kind = 1 then x.append a.index a.term (a.list.map EntD.toEntA) else if a.kind = 2 then x.shrink a.index else x
def LogA.run (x : LogA) (al : List ActD) : LogA := al.foldl LogA.act x
theorem LogA.act_good {x : LogA} (hx : x.good) (a : ActD) : (x.act a).good := by
  unfold LogA.act; split
  · exact LogA.append_good hx
  · split
    · exact LogA.shrink_good hx
    · exact hx
theorem LogA.put_len (x : LogA) (m : List EntA) : (x.put m).l.length ≤ x.l.length + m.length := by
  unfold LogA.put; split
  · simp only [List.length_append, List.length_take, List.length_drop]; omega
  · omega
theorem LogA.append_len (x : LogA) (index term : Nat) (m : List EntA) : (x.append index term m).l.length ≤ x.l.length + m.length := by
  unfold LogA.append; split
  · exact x.put_len m
  · omega
theorem LogA.act_len (x : LogA) (a : ActD) : (x.act a).l.length ≤ x.l.length + a.list.length := by
  unfold LogA.act; split
  · have := x.append_len a.index a.term (a.list.map EntD.toEntA); simpa using this
  · split
    · unfold LogA.shrink; split
      · simp only [List.length_drop]; omega
      · omega
    · omega
theorem LG.map_eq {i t j u : Nat} {es ms : List EntD} (he : LG j u ms = LG i t es) : j = i ∧ u = t ∧ ms.map EntD.toEntA = es.map EntD.toEntA ∧ ms.length = es.length := by
  have h := congrArg LogA.l he
  exact ⟨congrArg LogA.i he, congrArg LogA.t he, h, by simpa using congrArg List.length h⟩
theorem act_app {x X : LogA} {a : ActD} {own : List EntD} (hk : a.kind = 1) (h : own.map EntD.toEntA = a.list.map EntD.toEntA) (hX : X = x.append a.index a.term (own.map EntD.toEntA)) : X = x.act a := by
  unfold LogA.act; rw [if_pos hk, hX, h]
theorem act_shr {x X : LogA} {a : ActD} (hk : ¬ a.kind = 1) (hk2 : a.kind = 2) (hX : X = x.shrink a.index) : X = x.act a := by
  unfold LogA.act; rw [if_neg hk, if_pos hk2, hX]
theorem act_not {x : LogA} {a : ActD} (hk : ¬ a.kind = 1) (hk2 : ¬ a.kind = 2) : x = x.act a := by
  unfold LogA.act; rw [if_neg hk, if_neg hk2]
theorem LG.from_data {i t k : Nat} {n e : Int} {es rs : List EntD} (hg : (LG i t es).good) (h : (LG i t es).fromE k n = (rs.map EntD.toEntA, e)) : (∀ p ∈ rs, p.data.length ≤ 4096) ∧ rs.length ≤ es.length := by
  rw [LG.fromE_eq] at h
  have key : (∀ x ∈ rs.map EntD.toEntA, x ∈ es.map EntD.toEntA) ∧ rs.length ≤ es.length := by
    split at h
    · have h := congrArg Prod.fst h; simp at h; subst h; simp
    · split at h
      · have h := congrArg Prod.fst h; simp at h; subst h; simp
      · split at h
        · have h := congrArg Prod.fst h; simp at h; subst h; simp
        · have h := congrArg Prod.fst h
          simp only at h
          refine ⟨fun x hx => by rw [← h] at hx; exact List.mem_of_mem_drop (List.mem_of_mem_take hx), ?_⟩
          have := congrArg List.length h
          simp at this; omega
  exact ⟨fun p hp => (hg.fol.ok _ (key.1 _ (List.mem_map_of_mem (f := EntD.toEntA) hp))).1.2.2.2, key.2⟩
theorem from_all {i t : Nat} {n e : Int} {es rs : List EntD} (h : (LG i t es).fromE (i + 1) n = (rs.map EntD.toEntA, e)) (hn : (es.length : Int) ≤ n) : e = 0 ∧ rs.map EntD.toEntA = es.map EntD.toEntA := by
  rw [LG.fromE_eq, if_neg (by omega), if_neg (by omega), if_neg (by omega)] at h
  have h1 := congrArg Prod.fst h
  have h2 := congrArg Prod.snd h
  simp only at h1 h2
  rw [List.take_of_length_le (by simp; omega), show i + 1 - i - 1 = 0 by omega, List.drop_zero] at h1
  exact ⟨h2.symm, h1.symm⟩

theorem ans_eq {x x' : LogA} {index term p q p' q' : Nat} {e e' : Int} {own m : List EntD} (h1 : x.ans index term (own.map EntD.toEntA) = (p, q, e)) (h2 : x'.ans index term (m.map EntD.toEntA) = (p', q', e')) (h : own.map EntD.toEntA = m.map EntD.toEntA) (he : x' = x) : p = p' ∧ q = q' ∧ e = e' := by
  rw [he, ← h, h1] at h2; simpa using h2
theorem pair_eq {α β : Type} {p p' : α} {e e' : β} {z z' : α × β} (h1 : z = (p, e)) (h2 : z' = (p', e')) (h : z' = z) : p = p' ∧ e = e' := by
  rw [h, h1] at h2; simpa using h2
theorem LogA.run_snoc (x : LogA) (al : List ActD) (a : ActD) : x.run (al ++ [a]) = (x.run al).act a := by simp [LogA.run]
theorem wf_of_map {own l : List EntD} (h : own.map EntD.toEntA = l.map EntD.toEntA) (hw : ∀ e ∈ l, e.wf) : ∀ e ∈ own, e.wf := by
  intro e he
  have hm := List.mem_map_of_mem (f := EntD.toEntA) he
  rw [h] at hm
  obtain ⟨x, hx, hxe⟩ := List.mem_map.1 hm
  rw [← hxe]; exact hw x hx
def FromActs (ms : List EntD) (acts : List ActD) : Prop := ∀ p ∈ ms, ∃ a ∈ acts, p ∈ a.list
theorem FromActs.rd {ms : List EntD} {acts : List ActD} {w : World} {S : List Nat} (h : FromActs ms acts) (ha : ∀ a ∈ acts, ActD.rd a w S) : ∀ p ∈ ms, EntD.rd p w S := fun p hp => by
  obtain ⟨a, h1, h2⟩ := h p hp
  exact (ha a h1).lv_all p h2
theorem FromActs.step {ms ms' : List EntD} {acts : List ActD} {a : ActD} (h : FromActs ms acts) (ha : a ∈ acts) (h' : ∀ p ∈ ms', p ∈ ms ∨ p ∈ a.list) : FromActs ms' acts := fun p hp => (h' p hp).elim (h p) fun q => ⟨a, ha, q⟩
theorem act_info {i t i' t' : Nat} {es es' : List EntD} {a : ActD} (h : LG i' t' es' = (LG i t es).act a) (hg : (LG i t es).good) : (LG i' t' es').good ∧ es'.length ≤ es.length + a.list.length := by
  refine ⟨by rw [h]; exact LogA.act_good hg a, ?_⟩
  have h1 := LogA.act_len (LG i t es) a
  have h2 := congrArg (fun x : LogA => x.l.length) h
  simp only [List.length_map] at h1 h2; omega
theorem sum_step {acts : List ActD} {k : Nat} (hk : k < acts.length) : ((acts.take (k + 1)).map fun a => a.list.length).sum = ((acts.take k).map fun a => a.list.length).sum + (nth acts k).list.length := by
  rw [take_nth hk]; simp
theorem sum_take {acts : List ActD} : ∀ {k : Nat}, ((acts.take k).map fun a => a.list.length).sum ≤ (acts.map fun a => a.list.length).sum := by
  induction acts with
  | nil => simp
  | cons a l ih => intro k; cases k with
    | zero => simp
    | succ k => have := @ih k; simp only [List.take_succ_cons, List.map_cons, List.sum_cons]; omega

theorem begin_s (i t : Nat) (w : World) (hi : i ≤ 4611686018427387904) (ht : t ≤ 4611686018427387904) : Rets Try.prog 23 #[.int .u64 (i : Nat), .int .u64 (t : Nat)] w fun u_ w' => ∃ (lb : Nat) (wb : Nat), u_ = .tuple #[.pointer (some ⟨lb, 0, none⟩), .pointer (some ⟨wb, 0, none⟩)] ∧ Own w [] [Res.row lb 66 [.int .u64 (i : Nat), .int .u64 (t : Nat), (.slice none 0 0)], Res.vec 38 5 (.slice none 0 0) ([] : List EntD).length (([] : List EntD).flatMap EntD.cells), Res.star (([] : List EntD).map EntD.dres), Res.row wb 48 [.int .u64 (i : Nat), .int .u64 (t : Nat), .slice none 0 0]] w' := by
  refine fn_enter (args := [.int .u64 (i : Nat), .int .u64 (t : Nat)]) Try.func23 rfl Try.ntmps23 rfl (Own.start w) ?_
  refine c_reg ?_
  refine l_as rfl ?_
  refine l_as rfl ?_
  refine l_end ?_
  refine c_reg ?_
  refine l_mv rfl ?_
  refine l_mv rfl ?_
  refine l_call (by kernel_rfl) rfl rfl (fun w' hw => ?_)
  refine (new_s i t w' (by first | assumption | omega | (simp <;> omega) | (constructor <;> (first | omega | (simp only [LenOk]; omega) | (simp <;> omega)))) (by first | assumption | omega | (simp <;> omega) | (constructor <;> (first | omega | (simp only [LenOk]; omega) | (simp <;> omega))))).mono ?_
  rintro _ w1 ⟨b1_, rfl, hO⟩
  refine (?_ : CL _ _ _ _ _ _ (Own w [] [Res.row b1_ 66 [.int .u64 (i : Nat), .int .u64 (t : Nat), (.slice none 0 0)], Res.vec 38 5 (.slice none 0 0) ([] : List EntD).length (([] : List EntD).flatMap EntD.cells), Res.star (([] : List EntD).map EntD.dres)])) w1 (hw.frame0 hO)
  refine l_mv rfl ?_
  refine l_mv rfl ?_
  refine l_bld (cs := [.int .u64 (i : Nat), .int .u64 (t : Nat), .slice none 0 0]) (z := [.int .u64 (0 : Nat), .int .u64 (0 : Nat), .slice none 0 0]) (pl := [(0, 1), (1, 1), (2, 1)]) (by kernel_rfl) (by kernel_rfl) rfl ?_
  refine l_box rfl rfl (fun b12 => ?_)
  refine l_as rfl ?_
  refine l_as rfl ?_
  refine l_end ?_
  exact c_ret (ret2 (v := .pointer (some ⟨b1_, 0, none⟩)) (v' := .pointer (some ⟨b12, 0, none⟩)) rfl rfl rfl (fun w' hw => ⟨b1_, b12, rfl, hw⟩))
theorem beginNil_s (i t : Nat) (w : World) (hi : ¬ (i ≤ 4611686018427387904 ∧ t ≤ 4611686018427387904)) : Rets Try.prog 23 #[.int .u64 (i : Nat), .int .u64 (t : Nat)] w fun u_ w' => ∃ (wb : Nat), u_ = .tuple #[.pointer none, .pointer (some ⟨wb, 0, none⟩)] ∧ Own w [] [] w' := by
  refine fn_enter (args := [.int .u64 (i : Nat), .int .u64 (t : Nat)]) Try.func23 rfl Try.ntmps23 rfl (Own.start w) ?_
  refine c_reg ?_
  refine l_as rfl ?_
  refine l_as rfl ?_
  refine l_end ?_
  refine c_reg ?_
  refine l_mv rfl ?_
  refine l_mv rfl ?_
  refine l_call (by kernel_rfl) rfl rfl (fun w' hw => ?_)
  refine (newNil_s i t w' (by first | assumption | omega | (simp <;> omega) | (constructor <;> (first | omega | (simp only [LenOk]; omega) | (simp <;> omega))))).mono ?_
  rintro _ w1 ⟨rfl, hO⟩
  refine (?_ : CL _ _ _ _ _ _ (Own w [] [])) w1 (hw.frame0 hO)
  refine l_mv rfl ?_
  refine l_mv rfl ?_
  refine l_bld (cs := [.int .u64 (i : Nat), .int .u64 (t : Nat), .slice none 0 0]) (z := [.int .u64 (0 : Nat), .int .u64 (0 : Nat), .slice none 0 0]) (pl := [(0, 1), (1, 1), (2, 1)]) (by kernel_rfl) (by kernel_rfl) rfl ?_
  refine l_box rfl rfl (fun b12 => ?_)
  refine l_as rfl ?_
  refine l_as rfl ?_
  refine l_end ?_
  exact c_ret (ret2 (v := .pointer none) (v' := .pointer (some ⟨b12, 0, none⟩)) rfl rfl rfl (fun w' hw => ⟨b12, rfl, hw.drop⟩))
theorem act_g (lb i t : Nat) (lv : Value) (es : List EntD) (wb j u : Nat) (rv : Value) (ms : List EntD) (a : ActD) (w : World) (hl : es.length ≤ 10000000000) (hg : (LG i t es).good) (hl2 : ms.length ≤ 10000000000) (hg2 : (LG j u ms).good) (ha : a.wf) (hms : ∀ p ∈ ms, EntD.rd p w (fps [Res.row lb 66 [.int .u64 (i : Nat), .int .u64 (t : Nat), lv], Res.vec 38 5 lv es.length (es.flatMap EntD.cells), Res.star (es.map EntD.dres), Res.row wb 48 [.int .u64 (j : Nat), .int .u64 (u : Nat), rv], Res.vec 38 5 rv ms.length (ms.flatMap EntD.cells)])) (rd_a : ActD.rd a w (fps [Res.row lb 66 [.int .u64 (i : Nat), .int .u64 (t : Nat), lv], Res.vec 38 5 lv es.length (es.flatMap EntD.cells), Res.star (es.map EntD.dres), Res.row wb 48 [.int .u64 (j : Nat), .int .u64 (u : Nat), rv], Res.vec 38 5 rv ms.length (ms.flatMap EntD.cells)])) (hin : Own w (fps [Res.row lb 66 [.int .u64 (i : Nat), .int .u64 (t : Nat), lv], Res.vec 38 5 lv es.length (es.flatMap EntD.cells), Res.star (es.map EntD.dres), Res.row wb 48 [.int .u64 (j : Nat), .int .u64 (u : Nat), rv], Res.vec 38 5 rv ms.length (ms.flatMap EntD.cells)]) [Res.row lb 66 [.int .u64 (i : Nat), .int .u64 (t : Nat), lv], Res.vec 38 5 lv es.length (es.flatMap EntD.cells), Res.star (es.map EntD.dres), Res.row wb 48 [.int .u64 (j : Nat), .int .u64 (u : Nat), rv], Res.vec 38 5 rv ms.length (ms.flatMap EntD.cells)] w) : Rets Try.prog 25 #[.pointer (some ⟨lb, 0, none⟩), .pointer (some ⟨wb, 0, none⟩), .agg (ActD.cells a).toArray] w fun u_ w' => ∃ (r : Bool) (i' : Nat) (t' : Nat) (lv' : Value) (es' : List EntD) (j' : Nat) (u' : Nat) (rv' : Value) (ms' : List EntD), u_ = .bool r ∧ (LG j u ms = LG i t es → r = true) ∧ LG i' t' es' = (LG i t es).act a ∧ LG j' u' ms' = (LG j u ms).act a ∧ (∀ p ∈ ms', p ∈ ms ∨ p ∈ a.list) ∧ Own w (fps [Res.row lb 66 [.int .u64 (i : Nat), .int .u64 (t : Nat), lv], Res.vec 38 5 lv es.length (es.flatMap EntD.cells), Res.star (es.map EntD.dres), Res.row wb 48 [.int .u64 (j : Nat), .int .u64 (u : Nat), rv], Res.vec 38 5 rv ms.length (ms.flatMap EntD.cells)]) [Res.row lb 66 [.int .u64 (i' : Nat), .int .u64 (t' : Nat), lv'], Res.vec 38 5 lv' es'.length (es'.flatMap EntD.cells), Res.star (es'.map EntD.dres), Res.row wb 48 [.int .u64 (j' : Nat), .int .u64 (u' : Nat), rv'], Res.vec 38 5 rv' ms'.length (ms'.flatMap EntD.cells)] w' := by
  have hb := (LG.le hg).1
  have hb2 := (LG.le hg2).1
  have hal := ha.list
  have hai := ha.index
  have haw := ha.each
  refine fn_enter (args := [.pointer (some ⟨lb, 0, none⟩), .pointer (some ⟨wb, 0, none⟩), .agg (ActD.cells a).toArray]) Try.func25 rfl Try.ntmps25 rfl (show Own w (fps [Res.row lb 66 [.int .u64 (i : Nat), .int .u64 (t : Nat), lv], Res.vec 38 5 lv es.length (es.flatMap EntD.cells), Res.star (es.map EntD.dres), Res.row wb 48 [.int .u64 (j : Nat), .int .u64 (u : Nat), rv], Res.vec 38 5 rv ms.length (ms.flatMap EntD.cells)]) [Res.row lb 66 [.int .u64 (i : Nat), .int .u64 (t : Nat), lv], Res.vec 38 5 lv es.length (es.flatMap EntD.cells), Res.star (es.map EntD.dres), Res.row wb 48 [.int .u64 (j : Nat), .int .u64 (u : Nat), rv], Res.vec 38 5 rv ms.length (ms.flatMap EntD.cells)] w from hin) ?_
  refine c_reg ?_
  refine l_box rfl rfl (fun b5 => ?_)
  refine l_as rfl ?_
  refine l_end ?_
  refine c_seq ?_
  refine c_reg ?_
  refine l_fld (o := 0) rfl (by kernel_rfl) rfl ?_
  refine l_ldo 5 (v := .int .i64 a.kind) rfl rfl rfl (by kernel_rfl) rfl ?_
  refine l_end ?_
  refine c_block ?_
  refine c_reg ?_
  refine l_eq rfl rfl rfl ?_
  refine l_as rfl ?_
  refine l_end ?_
  refine c_dec rfl (fun c1 => ?_) (fun c1 => ?_)
  ·
    refine c_seq ?_
    refine c_heldo [3, 4, 5] rfl (by decide) (by kernel_rfl) (fun w' hw hS => ?_)
    refine h_take 0 rfl (by kernel_rfl) (by kernel_rfl) (by kernel_rfl) (v_mv) rfl hS ?_
    refine h_take 1 rfl (by kernel_rfl) (by kernel_rfl) (by kernel_rfl) (v_fld (o := 2) rfl (by kernel_rfl)) rfl hS ?_
    refine h_take 2 rfl (by kernel_rfl) (by kernel_rfl) (by kernel_rfl) (v_ldo 2 (v := .int .u64 (a.index : Nat)) rfl rfl rfl (by kernel_rfl)) rfl hS ?_
    refine h_take 3 rfl (by kernel_rfl) (by kernel_rfl) (by kernel_rfl) (v_fld (o := 3) rfl (by kernel_rfl)) rfl hS ?_
    refine h_take 4 rfl (by kernel_rfl) (by kernel_rfl) (by kernel_rfl) (v_ldo 2 (v := .int .u64 (a.term : Nat)) rfl rfl rfl (by kernel_rfl)) rfl hS ?_
    refine h_take 5 rfl (by kernel_rfl) (by kernel_rfl) (by kernel_rfl) (v_fld (o := 4) rfl (by kernel_rfl)) rfl hS ?_
    refine h_take 6 rfl (by kernel_rfl) (by kernel_rfl) (by kernel_rfl) (v_ldo 2 (v := a.lv) rfl rfl rfl (by kernel_rfl)) rfl hS ?_
    refine h_one 7 (by kernel_rfl) rfl hw ?_
    refine l_call (by kernel_rfl) rfl rfl (fun w' hw => ?_)
    refine (ownEnts_s a.lv a.list w' (by omega) (fun e he => (haw e he).data) (hw.rd0 rd_a.lv) (fun p hp => EntD.rd.at0 (rd_a.lv_all p hp) hw)).mono ?_
    rintro r1_ w1 ⟨_, es2_, rfl, hf3_7, hO⟩
    have hln := congrArg List.length hf3_7
    simp only [List.length_map] at hln
    refine (?_ : CL _ _ _ _ _ _ (Own w (fps [Res.row lb 66 [.int .u64 (i : Nat), .int .u64 (t : Nat), lv], Res.vec 38 5 lv es.length (es.flatMap EntD.cells), Res.star (es.map EntD.dres), Res.row wb 48 [.int .u64 (j : Nat), .int .u64 (u : Nat), rv], Res.vec 38 5 rv ms.length (ms.flatMap EntD.cells)]) [Res.row lb 66 [.int .u64 (i : Nat), .int .u64 (t : Nat), lv], Res.vec 38 5 lv es.length (es.flatMap EntD.cells), Res.star (es.map EntD.dres), Res.row wb 48 [.int .u64 (j : Nat), .int .u64 (u : Nat), rv], Res.vec 38 5 rv ms.length (ms.flatMap EntD.cells), Res.row b5 55 (ActD.cells a), Res.vec 38 5 r1_ es2_.length (es2_.flatMap EntD.cells), Res.star (es2_.map EntD.dres)])) w1 (hw.frame0 hO)
    refine l_nil (fun w' hw => ?_)
    have hS := hw.sel [3, 4, 5] rfl (by decide)
    refine ⟨hS, ?_⟩
    refine h_one 8 (by kernel_rfl) rfl hw ?_
    refine l_call (by kernel_rfl) rfl rfl (fun w' hw => ?_)
    refine (append_s lb i t lv es a.index a.term r1_ es2_ w' (by omega) hg (wf_of_map hf3_7 haw) hai (hw.rdVec 6 rfl [0, 1, 2] rfl rfl) (EntD.rd.star 7 rfl [0, 1, 2] rfl rfl hw) (hw.give [0, 1, 2] rfl (by decide))).mono ?_
    rintro _ w1 ⟨lv'3_, es'4_, x5_, y6_, e7_, rfl, hf3_8, hf3_8_1, hO⟩
    refine (?_ : CL _ _ _ _ _ _ (Own w (fps [Res.row lb 66 [.int .u64 (i : Nat), .int .u64 (t : Nat), lv], Res.vec 38 5 lv es.length (es.flatMap EntD.cells), Res.star (es.map EntD.dres), Res.row wb 48 [.int .u64 (j : Nat), .int .u64 (u : Nat), rv], Res.vec 38 5 rv ms.length (ms.flatMap EntD.cells)]) [Res.row wb 48 [.int .u64 (j : Nat), .int .u64 (u : Nat), rv], Res.vec 38 5 rv ms.length (ms.flatMap EntD.cells), Res.row b5 55 (ActD.cells a), Res.vec 38 5 r1_ es2_.length (es2_.flatMap EntD.cells), Res.star (es2_.map EntD.dres), Res.row lb 66 [.int .u64 (i : Nat), .int .u64 (t : Nat), lv'3_], Res.vec 38 5 lv'3_ es'4_.length (es'4_.flatMap EntD.cells), Res.star (es'4_.map EntD.dres)])) w1 (hw.frameL [0, 1, 2] rfl hO)
    refine l_nil (fun w' hw => ?_)
    have hS := hw.sel [0, 1, 2] rfl (by decide)
    refine ⟨hS, ?_⟩
    refine h_take 9 rfl (by kernel_rfl) (by kernel_rfl) (by kernel_rfl) (v_mv) rfl hS ?_
    refine h_take 10 rfl (by kernel_rfl) (by kernel_rfl) (by kernel_rfl) (v_ext (vs := [.int .u64 (x5_ : Nat), .int .u64 (y6_ : Nat), .int .i64 e7_]) rfl rfl) rfl hS ?_
    refine h_take 11 rfl (by kernel_rfl) (by kernel_rfl) (by kernel_rfl) (v_ext (vs := [.int .u64 (x5_ : Nat), .int .u64 (y6_ : Nat), .int .i64 e7_]) rfl rfl) rfl hS ?_
    refine h_take 12 rfl (by kernel_rfl) (by kernel_rfl) (by kernel_rfl) (v_ext (vs := [.int .u64 (x5_ : Nat), .int .u64 (y6_ : Nat), .int .i64 e7_]) rfl rfl) rfl hS ?_
    refine h_take 13 rfl (by kernel_rfl) (by kernel_rfl) (by kernel_rfl) (v_as) rfl hS ?_
    refine h_take 14 rfl (by kernel_rfl) (by kernel_rfl) (by kernel_rfl) (v_as) rfl hS ?_
    refine h_take 15 rfl (by kernel_rfl) (by kernel_rfl) (by kernel_rfl) (v_as) rfl hS ?_
    refine h_done (by kernel_rfl) ?_
    refine (?_ : C _ _ _ _ _ _ _ (Own w (fps [Res.row lb 66 [.int .u64 (i : Nat), .int .u64 (t : Nat), lv], Res.vec 38 5 lv es.length (es.flatMap EntD.cells), Res.star (es.map EntD.dres), Res.row wb 48 [.int .u64 (j : Nat), .int .u64 (u : Nat), rv], Res.vec 38 5 rv ms.length (ms.flatMap EntD.cells)]) [Res.row wb 48 [.int .u64 (j : Nat), .int .u64 (u : Nat), rv], Res.vec 38 5 rv ms.length (ms.flatMap EntD.cells), Res.row b5 55 (ActD.cells a), Res.vec 38 5 r1_ es2_.length (es2_.flatMap EntD.cells), Res.star (es2_.map EntD.dres), Res.row lb 66 [.int .u64 (i : Nat), .int .u64 (t : Nat), lv'3_], Res.vec 38 5 lv'3_ es'4_.length (es'4_.flatMap EntD.cells), Res.star (es'4_.map EntD.dres)])) _ hw
    refine c_reg ?_
    refine l_mv rfl ?_
    refine l_fld (o := 2) rfl (by kernel_rfl) rfl ?_
    refine l_ldo 2 (v := .int .u64 (a.index : Nat)) rfl rfl rfl (by kernel_rfl) rfl ?_
    refine l_fld (o := 3) rfl (by kernel_rfl) rfl ?_
    refine l_ldo 2 (v := .int .u64 (a.term : Nat)) rfl rfl rfl (by kernel_rfl) rfl ?_
    refine l_fld (o := 4) rfl (by kernel_rfl) rfl ?_
    refine l_ldo 2 (v := a.lv) rfl rfl rfl (by kernel_rfl) rfl ?_
    refine l_call (by kernel_rfl) rfl rfl (fun w' hw => ?_)
    refine (rappend_s wb j u rv ms a.index a.term a.lv a.list w' (by first | assumption | omega | (simp <;> omega) | (constructor <;> (first | omega | (simp only [LenOk]; omega) | (simp <;> omega)))) (by first | assumption | omega | (simp <;> omega) | (constructor <;> (first | omega | (simp only [LenOk]; omega) | (simp <;> omega)))) (by first | assumption | omega | (simp <;> omega) | (constructor <;> (first | omega | (simp only [LenOk]; omega) | (simp <;> omega)))) (by first | assumption | omega | (simp <;> omega) | (constructor <;> (first | omega | (simp only [LenOk]; omega) | (simp <;> omega)))) (hw.rdTo rd_a.lv [0, 1] rfl) (fun p hp => EntD.rd.at (rd_a.lv_all p hp) hw [0, 1] rfl) (fun p hp => EntD.rd.at (hms p hp) hw [0, 1] rfl) (hw.give [0, 1] rfl (by decide))).mono ?_
    rintro _ w1 ⟨rv'8_, ms'9_, x10_, y11_, e12_, rfl, hf4_7, hf4_7_1, hf4_7_2, hO⟩
    refine (?_ : CL _ _ _ _ _ _ (Own w (fps [Res.row lb 66 [.int .u64 (i : Nat), .int .u64 (t : Nat), lv], Res.vec 38 5 lv es.length (es.flatMap EntD.cells), Res.star (es.map EntD.dres), Res.row wb 48 [.int .u64 (j : Nat), .int .u64 (u : Nat), rv], Res.vec 38 5 rv ms.length (ms.flatMap EntD.cells)]) [Res.row b5 55 (ActD.cells a), Res.vec 38 5 r1_ es2_.length (es2_.flatMap EntD.cells), Res.star (es2_.map EntD.dres), Res.row lb 66 [.int .u64 (i : Nat), .int .u64 (t : Nat), lv'3_], Res.vec 38 5 lv'3_ es'4_.length (es'4_.flatMap EntD.cells), Res.star (es'4_.map EntD.dres), Res.row wb 48 [.int .u64 (j : Nat), .int .u64 (u : Nat), rv'8_], Res.vec 38 5 rv'8_ ms'9_.length (ms'9_.flatMap EntD.cells)])) w1 (hw.frameL [0, 1] rfl hO)
    refine l_mv rfl ?_
    refine l_ext (vs := [.int .u64 (x10_ : Nat), .int .u64 (y11_ : Nat), .int .i64 e12_]) rfl rfl rfl ?_
    refine l_ext (vs := [.int .u64 (x10_ : Nat), .int .u64 (y11_ : Nat), .int .i64 e12_]) rfl rfl rfl ?_
    refine l_ext (vs := [.int .u64 (x10_ : Nat), .int .u64 (y11_ : Nat), .int .i64 e12_]) rfl rfl rfl ?_
    refine l_as rfl ?_
    refine l_as rfl ?_
    refine l_as rfl ?_
    refine l_end ?_
    refine c_reg ?_
    refine l_mv rfl ?_
    refine l_mv rfl ?_
    refine l_eq rfl rfl rfl ?_
    refine l_mv rfl ?_
    refine l_band (q := ((x5_ : Nat) : Int) = ((x10_ : Nat) : Int)) 3 3 [60, 59, 58] (((y6_ : Nat) : Int) = ((y11_ : Nat) : Int)) rfl rfl rfl rfl rfl rfl trivial rfl (fun h5_3 => ?_) (fun g5_7 => ?_)
    ·
      refine l_on rfl (gT h5_3) ?_
      refine l_mv rfl ?_
      refine l_on rfl (gT h5_3) ?_
      refine l_mv rfl ?_
      refine l_on rfl (gT h5_3) ?_
      refine l_eq rfl rfl rfl ?_
      exact l_nil (fun w' hw => ⟨(by repeat (first | exact Out.refl _ _ | refine Out.upd rfl ?_ | refine Out.msk rfl ?_)), rfl, hw⟩)
    refine l_mv rfl ?_
    refine l_band (q := (((x5_ : Nat) : Int) = ((x10_ : Nat) : Int)) ∧ (((y6_ : Nat) : Int) = ((y11_ : Nat) : Int))) 3 8 [65, 64, 63] (e7_ = e12_) rfl rfl rfl rfl rfl rfl trivial rfl (fun h5_8 => ?_) (fun g5_12 => ?_)
    ·
      refine l_on rfl (gT h5_8) ?_
      refine l_mv rfl ?_
      refine l_on rfl (gT h5_8) ?_
      refine l_mv rfl ?_
      refine l_on rfl (gT h5_8) ?_
      refine l_eq rfl rfl rfl ?_
      exact l_nil (fun w' hw => ⟨(by repeat (first | exact Out.refl _ _ | refine Out.upd rfl ?_ | refine Out.msk rfl ?_)), rfl, hw⟩)
    refine l_as rfl ?_
    refine l_end ?_
    exact c_ret (ret1 (v := .bool (decide (((((x5_ : Nat) : Int) = ((x10_ : Nat) : Int)) ∧ (((y6_ : Nat) : Int) = ((y11_ : Nat) : Int))) ∧ (e7_ = e12_)))) rfl rfl (fun w' hw => ⟨(decide (((((x5_ : Nat) : Int) = ((x10_ : Nat) : Int)) ∧ (((y6_ : Nat) : Int) = ((y11_ : Nat) : Int))) ∧ (e7_ = e12_))), i, t, lv'3_, es'4_, j, u, rv'8_, ms'9_, rfl, (fun he => by have hans := ans_eq hf3_8_1 hf4_7_1 hf3_7 he; rw [decide_eq_true]; omega), act_app c1 hf3_7 hf3_8, act_app c1 rfl hf4_7, hf4_7_2, hw.sel [3, 4, 5, 6, 7] rfl (by decide)⟩))
  ·
    refine c_reg ?_
    refine l_eq rfl rfl rfl ?_
    refine l_as rfl ?_
    refine l_end ?_
    refine c_dec rfl (fun c2 => ?_) (fun c2 => ?_)
    ·
      refine c_seq ?_
      refine c_heldo [5] rfl (by decide) (by kernel_rfl) (fun w' hw hS => ?_)
      refine h_take 0 rfl (by kernel_rfl) (by kernel_rfl) (by kernel_rfl) (v_mv) rfl hS ?_
      refine h_take 1 rfl (by kernel_rfl) (by kernel_rfl) (by kernel_rfl) (v_fld (o := 2) rfl (by kernel_rfl)) rfl hS ?_
      refine h_take 2 rfl (by kernel_rfl) (by kernel_rfl) (by kernel_rfl) (v_ldo 0 (v := .int .u64 (a.index : Nat)) rfl rfl rfl (by kernel_rfl)) rfl hS ?_
      refine h_take 4 rfl (by kernel_rfl) (by kernel_rfl) (by kernel_rfl) (v_mv) rfl hS ?_
      refine h_take 5 rfl (by kernel_rfl) (by kernel_rfl) (by kernel_rfl) (v_fld (o := 2) rfl (by kernel_rfl)) rfl hS ?_
      refine h_take 6 rfl (by kernel_rfl) (by kernel_rfl) (by kernel_rfl) (v_ldo 0 (v := .int .u64 (a.index : Nat)) rfl rfl rfl (by kernel_rfl)) rfl hS ?_
      refine h_one 3 (by kernel_rfl) rfl hw ?_
      refine l_call (by kernel_rfl) rfl rfl (fun w' hw => ?_)
      refine (shrink_s lb i t lv es a.index w' (by first | assumption | omega | (simp <;> omega) | (constructor <;> (first | omega | (simp only [LenOk]; omega) | (simp <;> omega)))) (by first | assumption | omega | (simp <;> omega) | (constructor <;> (first | omega | (simp only [LenOk]; omega) | (simp <;> omega)))) (by first | assumption | omega | (simp <;> omega) | (constructor <;> (first | omega | (simp only [LenOk]; omega) | (simp <;> omega)))) (hw.give [0, 1, 2] rfl (by decide))).mono ?_
      rintro _ w1 ⟨i'13_, t'14_, lv'15_, es'16_, e17_, rfl, hf7_3, hf7_3_1, hO⟩
      refine (?_ : CL _ _ _ _ _ _ (Own w (fps [Res.row lb 66 [.int .u64 (i : Nat), .int .u64 (t : Nat), lv], Res.vec 38 5 lv es.length (es.flatMap EntD.cells), Res.star (es.map EntD.dres), Res.row wb 48 [.int .u64 (j : Nat), .int .u64 (u : Nat), rv], Res.vec 38 5 rv ms.length (ms.flatMap EntD.cells)]) [Res.row wb 48 [.int .u64 (j : Nat), .int .u64 (u : Nat), rv], Res.vec 38 5 rv ms.length (ms.flatMap EntD.cells), Res.row b5 55 (ActD.cells a), Res.row lb 66 [.int .u64 (i'13_ : Nat), .int .u64 (t'14_ : Nat), lv'15_], Res.vec 38 5 lv'15_ es'16_.length (es'16_.flatMap EntD.cells), Res.star (es'16_.map EntD.dres)])) w1 (hw.frameL [0, 1, 2] rfl hO)
      refine l_nil (fun w' hw => ?_)
      have hS := hw.sel [2] rfl (by decide)
      refine ⟨hS, ?_⟩
      refine h_one 7 (by kernel_rfl) rfl hw ?_
      refine l_call (by kernel_rfl) rfl rfl (fun w' hw => ?_)
      refine (rshrink_s wb j u rv ms a.index w' (by first | assumption | omega | (simp <;> omega) | (constructor <;> (first | omega | (simp only [LenOk]; omega) | (simp <;> omega)))) (by first | assumption | omega | (simp <;> omega) | (constructor <;> (first | omega | (simp only [LenOk]; omega) | (simp <;> omega)))) (fun p hp => EntD.rd.at (hms p hp) hw [0, 1] rfl) (hw.give [0, 1] rfl (by decide))).mono ?_
      rintro _ w1 ⟨i'18_, t'19_, rv'20_, ms'21_, e22_, rfl, hf7_7, hf7_7_1, hf7_7_2, hO⟩
      refine (?_ : CL _ _ _ _ _ _ (Own w (fps [Res.row lb 66 [.int .u64 (i : Nat), .int .u64 (t : Nat), lv], Res.vec 38 5 lv es.length (es.flatMap EntD.cells), Res.star (es.map EntD.dres), Res.row wb 48 [.int .u64 (j : Nat), .int .u64 (u : Nat), rv], Res.vec 38 5 rv ms.length (ms.flatMap EntD.cells)]) [Res.row b5 55 (ActD.cells a), Res.row lb 66 [.int .u64 (i'13_ : Nat), .int .u64 (t'14_ : Nat), lv'15_], Res.vec 38 5 lv'15_ es'16_.length (es'16_.flatMap EntD.cells), Res.star (es'16_.map EntD.dres), Res.row wb 48 [.int .u64 (i'18_ : Nat), .int .u64 (t'19_ : Nat), rv'20_], Res.vec 38 5 rv'20_ ms'21_.length (ms'21_.flatMap EntD.cells)])) w1 (hw.frameL [0, 1] rfl hO)
      refine l_nil (fun w' hw => ?_)
      have hS := hw.sel [0] rfl (by decide)
      refine ⟨hS, ?_⟩
      refine h_take 8 rfl (by kernel_rfl) (by kernel_rfl) (by kernel_rfl) (v_eq rfl rfl) rfl hS ?_
      refine h_take 9 rfl (by kernel_rfl) (by kernel_rfl) (by kernel_rfl) (v_as) rfl hS ?_
      refine h_done (by kernel_rfl) ?_
      refine (?_ : C _ _ _ _ _ _ _ (Own w (fps [Res.row lb 66 [.int .u64 (i : Nat), .int .u64 (t : Nat), lv], Res.vec 38 5 lv es.length (es.flatMap EntD.cells), Res.star (es.map EntD.dres), Res.row wb 48 [.int .u64 (j : Nat), .int .u64 (u : Nat), rv], Res.vec 38 5 rv ms.length (ms.flatMap EntD.cells)]) [Res.row b5 55 (ActD.cells a), Res.row lb 66 [.int .u64 (i'13_ : Nat), .int .u64 (t'14_ : Nat), lv'15_], Res.vec 38 5 lv'15_ es'16_.length (es'16_.flatMap EntD.cells), Res.star (es'16_.map EntD.dres), Res.row wb 48 [.int .u64 (i'18_ : Nat), .int .u64 (t'19_ : Nat), rv'20_], Res.vec 38 5 rv'20_ ms'21_.length (ms'21_.flatMap EntD.cells)])) _ hw
      exact c_ret (ret1 (v := .bool (decide (e17_ = e22_))) rfl rfl (fun w' hw => ⟨(decide (e17_ = e22_)), i'13_, t'14_, lv'15_, es'16_, i'18_, t'19_, rv'20_, ms'21_, rfl, (fun he => by rw [decide_eq_true]; rw [hf7_3_1, hf7_7_1, he]), act_shr c1 c2 hf7_3, act_shr c1 c2 hf7_7, (fun p hp => .inl (hf7_7_2 p hp)), hw.sel [1, 2, 3, 4, 5] rfl (by decide)⟩))
    ·
      refine c_reg ?_
      refine l_eq rfl rfl rfl ?_
      refine l_as rfl ?_
      refine l_end ?_
      refine c_dec rfl (fun c3 => ?_) (fun c3 => ?_)
      ·
        refine c_reg ?_
        refine l_mv rfl ?_
        refine l_fld (o := 2) rfl (by kernel_rfl) rfl ?_
        refine l_ldo 5 (v := .int .u64 (a.index : Nat)) rfl rfl rfl (by kernel_rfl) rfl ?_
        refine l_fld (o := 1) rfl (by kernel_rfl) rfl ?_
        refine l_ldo 5 (v := .int .i64 a.n) rfl rfl rfl (by kernel_rfl) rfl ?_
        refine l_call (by kernel_rfl) rfl rfl (fun w' hw => ?_)
        refine (from_s lb i t lv es a.index a.n w' (by first | assumption | omega | (simp <;> omega) | (constructor <;> (first | omega | (simp only [LenOk]; omega) | (simp <;> omega)))) (by first | assumption | omega | (simp <;> omega) | (constructor <;> (first | omega | (simp only [LenOk]; omega) | (simp <;> omega)))) (hw.rdRes0 0 rfl) (hw.rdVec0 1 rfl) (EntD.rd.star0 2 rfl hw)).mono ?_
        rintro _ w1 ⟨r23_, rs24_, e25_, rfl, hf9_5, hO⟩
        refine (?_ : CL _ _ _ _ _ _ (Own w (fps [Res.row lb 66 [.int .u64 (i : Nat), .int .u64 (t : Nat), lv], Res.vec 38 5 lv es.length (es.flatMap EntD.cells), Res.star (es.map EntD.dres), Res.row wb 48 [.int .u64 (j : Nat), .int .u64 (u : Nat), rv], Res.vec 38 5 rv ms.length (ms.flatMap EntD.cells)]) [Res.row lb 66 [.int .u64 (i : Nat), .int .u64 (t : Nat), lv], Res.vec 38 5 lv es.length (es.flatMap EntD.cells), Res.star (es.map EntD.dres), Res.row wb 48 [.int .u64 (j : Nat), .int .u64 (u : Nat), rv], Res.vec 38 5 rv ms.length (ms.flatMap EntD.cells), Res.row b5 55 (ActD.cells a), Res.vec 38 5 r23_ rs24_.length (rs24_.flatMap EntD.cells), Res.star (rs24_.map EntD.dres)])) w1 (hw.frame0 hO)
        refine l_mv rfl ?_
        refine l_ext (vs := [r23_, .int .i64 e25_]) rfl rfl rfl ?_
        refine l_ext (vs := [r23_, .int .i64 e25_]) rfl rfl rfl ?_
        refine l_as rfl ?_
        refine l_as rfl ?_
        refine l_end ?_
        refine c_reg ?_
        refine l_mv rfl ?_
        refine l_fld (o := 2) rfl (by kernel_rfl) rfl ?_
        refine l_ldo 5 (v := .int .u64 (a.index : Nat)) rfl rfl rfl (by kernel_rfl) rfl ?_
        refine l_fld (o := 1) rfl (by kernel_rfl) rfl ?_
        refine l_ldo 5 (v := .int .i64 a.n) rfl rfl rfl (by kernel_rfl) rfl ?_
        refine l_call (by kernel_rfl) rfl rfl (fun w' hw => ?_)
        refine (rfrom_s wb j u rv ms a.index a.n w' (by first | assumption | omega | (simp <;> omega) | (constructor <;> (first | omega | (simp only [LenOk]; omega) | (simp <;> omega)))) (by first | assumption | omega | (simp <;> omega) | (constructor <;> (first | omega | (simp only [LenOk]; omega) | (simp <;> omega)))) (hw.rdRes0 3 rfl) (hw.rdVec0 4 rfl) (fun p hp => EntD.rd.at0 (hms p hp) hw)).mono ?_
        rintro _ w1 ⟨r26_, rs27_, e28_, rfl, hf10_5, hf10_5_1, hO⟩
        have hd1 := LG.from_data hg hf9_5
        have hd2 := LG.from_data hg2 hf10_5
        have hrs := fun p (hp : p ∈ rs27_) => hms p (hf10_5_1 p hp)
        refine (?_ : CL _ _ _ _ _ _ (Own w (fps [Res.row lb 66 [.int .u64 (i : Nat), .int .u64 (t : Nat), lv], Res.vec 38 5 lv es.length (es.flatMap EntD.cells), Res.star (es.map EntD.dres), Res.row wb 48 [.int .u64 (j : Nat), .int .u64 (u : Nat), rv], Res.vec 38 5 rv ms.length (ms.flatMap EntD.cells)]) [Res.row lb 66 [.int .u64 (i : Nat), .int .u64 (t : Nat), lv], Res.vec 38 5 lv es.length (es.flatMap EntD.cells), Res.star (es.map EntD.dres), Res.row wb 48 [.int .u64 (j : Nat), .int .u64 (u : Nat), rv], Res.vec 38 5 rv ms.length (ms.flatMap EntD.cells), Res.row b5 55 (ActD.cells a), Res.vec 38 5 r23_ rs24_.length (rs24_.flatMap EntD.cells), Res.star (rs24_.map EntD.dres), Res.vec 38 5 r26_ rs27_.length (rs27_.flatMap EntD.cells)])) w1 (hw.frame0 hO)
        refine l_mv rfl ?_
        refine l_ext (vs := [r26_, .int .i64 e28_]) rfl rfl rfl ?_
        refine l_ext (vs := [r26_, .int .i64 e28_]) rfl rfl rfl ?_
        refine l_as rfl ?_
        refine l_as rfl ?_
        refine l_end ?_
        refine c_reg ?_
        refine l_mv rfl ?_
        refine l_mv rfl ?_
        refine l_call (by kernel_rfl) rfl rfl (fun w' hw => ?_)
        refine (sameEnts_s r23_ rs24_ r26_ rs27_ w' (by have := hd1.2; show _ ≤ _; omega) (by have := hd2.2; show _ ≤ _; omega) (fun e he' => by have := hd1.1 e he'; omega) (fun e he' => by have := hd2.1 e he'; omega) (hw.rdVec0 6 rfl) (EntD.rd.star0 7 rfl hw) (hw.rdVec0 8 rfl) (fun p hp => EntD.rd.at0 (hrs p hp) hw)).mono ?_
        rintro _ w1 ⟨rfl, hO⟩
        refine (?_ : CL _ _ _ _ _ _ (Own w (fps [Res.row lb 66 [.int .u64 (i : Nat), .int .u64 (t : Nat), lv], Res.vec 38 5 lv es.length (es.flatMap EntD.cells), Res.star (es.map EntD.dres), Res.row wb 48 [.int .u64 (j : Nat), .int .u64 (u : Nat), rv], Res.vec 38 5 rv ms.length (ms.flatMap EntD.cells)]) [Res.row lb 66 [.int .u64 (i : Nat), .int .u64 (t : Nat), lv], Res.vec 38 5 lv es.length (es.flatMap EntD.cells), Res.star (es.map EntD.dres), Res.row wb 48 [.int .u64 (j : Nat), .int .u64 (u : Nat), rv], Res.vec 38 5 rv ms.length (ms.flatMap EntD.cells), Res.row b5 55 (ActD.cells a), Res.vec 38 5 r23_ rs24_.length (rs24_.flatMap EntD.cells), Res.star (rs24_.map EntD.dres), Res.vec 38 5 r26_ rs27_.length (rs27_.flatMap EntD.cells)])) w1 (hw.frame0 hO)
        refine l_mv rfl ?_
        refine l_band (q := rs24_.map EntD.toEntA = rs27_.map EntD.toEntA) 3 3 [104, 103, 102] (e25_ = e28_) rfl rfl rfl rfl rfl rfl trivial rfl (fun h11_3 => ?_) (fun g11_7 => ?_)
        ·
          refine l_on rfl (gT h11_3) ?_
          refine l_mv rfl ?_
          refine l_on rfl (gT h11_3) ?_
          refine l_mv rfl ?_
          refine l_on rfl (gT h11_3) ?_
          refine l_eq rfl rfl rfl ?_
          exact l_nil (fun w' hw => ⟨(by repeat (first | exact Out.refl _ _ | refine Out.upd rfl ?_ | refine Out.msk rfl ?_)), rfl, hw⟩)
        refine l_as rfl ?_
        refine l_end ?_
        exact c_ret (ret1 (v := .bool (decide ((rs24_.map EntD.toEntA = rs27_.map EntD.toEntA) ∧ (e25_ = e28_)))) rfl rfl (fun w' hw => ⟨(decide ((rs24_.map EntD.toEntA = rs27_.map EntD.toEntA) ∧ (e25_ = e28_))), i, t, lv, es, j, u, rv, ms, rfl, (fun he => by rw [decide_eq_true]; exact pair_eq hf9_5 hf10_5 (by rw [he])), act_not c1 c2, act_not c1 c2, (fun p hp => .inl hp), hw.sel [0, 1, 2, 3, 4] rfl (by decide)⟩))
      ·
        refine c_reg ?_
        refine l_eq rfl rfl rfl ?_
        refine l_as rfl ?_
        refine l_end ?_
        refine c_dec rfl (fun c4 => ?_) (fun c4 => ?_)
        ·
          refine c_reg ?_
          refine l_mv rfl ?_
          refine l_fld (o := 2) rfl (by kernel_rfl) rfl ?_
          refine l_ldo 5 (v := .int .u64 (a.index : Nat)) rfl rfl rfl (by kernel_rfl) rfl ?_
          refine l_fld (o := 3) rfl (by kernel_rfl) rfl ?_
          refine l_ldo 5 (v := .int .u64 (a.term : Nat)) rfl rfl rfl (by kernel_rfl) rfl ?_
          refine l_call (by kernel_rfl) rfl rfl (fun w' hw => ?_)
          refine (hint_s lb i t lv es a.index a.term w' (by first | assumption | omega | (simp <;> omega) | (constructor <;> (first | omega | (simp only [LenOk]; omega) | (simp <;> omega)))) (hw.rdRes0 0 rfl) (hw.rdVec0 1 rfl) (EntD.rd.star0 2 rfl hw)).mono ?_
          rintro _ w1 ⟨x29_, y30_, rfl, hf13_5, hO⟩
          refine (?_ : CL _ _ _ _ _ _ (Own w (fps [Res.row lb 66 [.int .u64 (i : Nat), .int .u64 (t : Nat), lv], Res.vec 38 5 lv es.length (es.flatMap EntD.cells), Res.star (es.map EntD.dres), Res.row wb 48 [.int .u64 (j : Nat), .int .u64 (u : Nat), rv], Res.vec 38 5 rv ms.length (ms.flatMap EntD.cells)]) [Res.row lb 66 [.int .u64 (i : Nat), .int .u64 (t : Nat), lv], Res.vec 38 5 lv es.length (es.flatMap EntD.cells), Res.star (es.map EntD.dres), Res.row wb 48 [.int .u64 (j : Nat), .int .u64 (u : Nat), rv], Res.vec 38 5 rv ms.length (ms.flatMap EntD.cells), Res.row b5 55 (ActD.cells a)])) w1 (hw.frame0 hO)
          refine l_mv rfl ?_
          refine l_ext (vs := [.int .u64 (x29_ : Nat), .int .u64 (y30_ : Nat)]) rfl rfl rfl ?_
          refine l_ext (vs := [.int .u64 (x29_ : Nat), .int .u64 (y30_ : Nat)]) rfl rfl rfl ?_
          refine l_as rfl ?_
          refine l_as rfl ?_
          refine l_end ?_
          refine c_reg ?_
          refine l_mv rfl ?_
          refine l_fld (o := 2) rfl (by kernel_rfl) rfl ?_
          refine l_ldo 5 (v := .int .u64 (a.index : Nat)) rfl rfl rfl (by kernel_rfl) rfl ?_
          refine l_fld (o := 3) rfl (by kernel_rfl) rfl ?_
          refine l_ldo 5 (v := .int .u64 (a.term : Nat)) rfl rfl rfl (by kernel_rfl) rfl ?_
          refine l_call (by kernel_rfl) rfl rfl (fun w' hw => ?_)
          refine (rhint_s wb j u rv ms a.index a.term w' (by first | assumption | omega | (simp <;> omega) | (constructor <;> (first | omega | (simp only [LenOk]; omega) | (simp <;> omega)))) (hw.rdRes0 3 rfl) (hw.rdVec0 4 rfl) (fun p hp => EntD.rd.at0 (hms p hp) hw)).mono ?_
          rintro _ w1 ⟨x31_, y32_, rfl, hf14_5, hO⟩
          refine (?_ : CL _ _ _ _ _ _ (Own w (fps [Res.row lb 66 [.int .u64 (i : Nat), .int .u64 (t : Nat), lv], Res.vec 38 5 lv es.length (es.flatMap EntD.cells), Res.star (es.map EntD.dres), Res.row wb 48 [.int .u64 (j : Nat), .int .u64 (u : Nat), rv], Res.vec 38 5 rv ms.length (ms.flatMap EntD.cells)]) [Res.row lb 66 [.int .u64 (i : Nat), .int .u64 (t : Nat), lv], Res.vec 38 5 lv es.length (es.flatMap EntD.cells), Res.star (es.map EntD.dres), Res.row wb 48 [.int .u64 (j : Nat), .int .u64 (u : Nat), rv], Res.vec 38 5 rv ms.length (ms.flatMap EntD.cells), Res.row b5 55 (ActD.cells a)])) w1 (hw.frame0 hO)
          refine l_mv rfl ?_
          refine l_ext (vs := [.int .u64 (x31_ : Nat), .int .u64 (y32_ : Nat)]) rfl rfl rfl ?_
          refine l_ext (vs := [.int .u64 (x31_ : Nat), .int .u64 (y32_ : Nat)]) rfl rfl rfl ?_
          refine l_as rfl ?_
          refine l_as rfl ?_
          refine l_end ?_
          refine c_reg ?_
          refine l_mv rfl ?_
          refine l_mv rfl ?_
          refine l_eq rfl rfl rfl ?_
          refine l_mv rfl ?_
          refine l_band (q := ((x29_ : Nat) : Int) = ((x31_ : Nat) : Int)) 3 3 [132, 131, 130] (((y30_ : Nat) : Int) = ((y32_ : Nat) : Int)) rfl rfl rfl rfl rfl rfl trivial rfl (fun h15_3 => ?_) (fun g15_7 => ?_)
          ·
            refine l_on rfl (gT h15_3) ?_
            refine l_mv rfl ?_
            refine l_on rfl (gT h15_3) ?_
            refine l_mv rfl ?_
            refine l_on rfl (gT h15_3) ?_
            refine l_eq rfl rfl rfl ?_
            exact l_nil (fun w' hw => ⟨(by repeat (first | exact Out.refl _ _ | refine Out.upd rfl ?_ | refine Out.msk rfl ?_)), rfl, hw⟩)
          refine l_as rfl ?_
          refine l_end ?_
          exact c_ret (ret1 (v := .bool (decide ((((x29_ : Nat) : Int) = ((x31_ : Nat) : Int)) ∧ (((y30_ : Nat) : Int) = ((y32_ : Nat) : Int))))) rfl rfl (fun w' hw => ⟨(decide ((((x29_ : Nat) : Int) = ((x31_ : Nat) : Int)) ∧ (((y30_ : Nat) : Int) = ((y32_ : Nat) : Int)))), i, t, lv, es, j, u, rv, ms, rfl, (fun he => by rw [decide_eq_true]; have h := pair_eq hf13_5 hf14_5 (by rw [he]); omega), act_not c1 c2, act_not c1 c2, (fun p hp => .inl hp), hw.sel [0, 1, 2, 3, 4] rfl (by decide)⟩))
        ·
          refine c_reg ?_
          refine l_eq rfl rfl rfl ?_
          refine l_as rfl ?_
          refine l_end ?_
          refine c_dec rfl (fun c5 => ?_) (fun c5 => ?_)
          ·
            refine c_seq ?_
            refine c_heldo [0, 1, 3, 4, 5] rfl (by decide) (by kernel_rfl) (fun w' hw hS => ?_)
            refine h_take 0 rfl (by kernel_rfl) (by kernel_rfl) (by kernel_rfl) (v_mv) rfl hS ?_
            refine h_take 1 rfl (by kernel_rfl) (by kernel_rfl) (by kernel_rfl) (v_fld (o := 2) rfl (by kernel_rfl)) rfl hS ?_
            refine h_take 2 rfl (by kernel_rfl) (by kernel_rfl) (by kernel_rfl) (v_ldo 4 (v := .int .u64 (a.index : Nat)) rfl rfl rfl (by kernel_rfl)) rfl hS ?_
            refine h_take 3 rfl (by kernel_rfl) (by kernel_rfl) (by kernel_rfl) (v_fld (o := 3) rfl (by kernel_rfl)) rfl hS ?_
            refine h_take 4 rfl (by kernel_rfl) (by kernel_rfl) (by kernel_rfl) (v_ldo 4 (v := .int .u64 (a.term : Nat)) rfl rfl rfl (by kernel_rfl)) rfl hS ?_
            refine h_take 6 rfl (by kernel_rfl) (by kernel_rfl) (by kernel_rfl) (v_mv) rfl hS ?_
            refine h_take 7 rfl (by kernel_rfl) (by kernel_rfl) (by kernel_rfl) (v_fld (o := 2) rfl (by kernel_rfl)) rfl hS ?_
            refine h_take 8 rfl (by kernel_rfl) (by kernel_rfl) (by kernel_rfl) (v_ldo 4 (v := .int .u64 (a.index : Nat)) rfl rfl rfl (by kernel_rfl)) rfl hS ?_
            refine h_take 9 rfl (by kernel_rfl) (by kernel_rfl) (by kernel_rfl) (v_fld (o := 3) rfl (by kernel_rfl)) rfl hS ?_
            refine h_take 10 rfl (by kernel_rfl) (by kernel_rfl) (by kernel_rfl) (v_ldo 4 (v := .int .u64 (a.term : Nat)) rfl rfl rfl (by kernel_rfl)) rfl hS ?_
            refine h_one 5 (by kernel_rfl) rfl hw ?_
            refine l_call (by kernel_rfl) rfl rfl (fun w' hw => ?_)
            refine (fits_s' lb i t lv es a.index a.term w' (by first | assumption | omega | (simp <;> omega) | (constructor <;> (first | omega | (simp only [LenOk]; omega) | (simp <;> omega)))) (by first | assumption | omega | (simp <;> omega) | (constructor <;> (first | omega | (simp only [LenOk]; omega) | (simp <;> omega)))) (by first | assumption | omega | (simp <;> omega) | (constructor <;> (first | omega | (simp only [LenOk]; omega) | (simp <;> omega)))) (hw.rdRes0 0 rfl) (hw.rdVec0 1 rfl) (EntD.rd.star0 2 rfl hw)).mono ?_
            rintro _ w1 ⟨rfl, hO⟩
            refine (?_ : CL _ _ _ _ _ _ (Own w (fps [Res.row lb 66 [.int .u64 (i : Nat), .int .u64 (t : Nat), lv], Res.vec 38 5 lv es.length (es.flatMap EntD.cells), Res.star (es.map EntD.dres), Res.row wb 48 [.int .u64 (j : Nat), .int .u64 (u : Nat), rv], Res.vec 38 5 rv ms.length (ms.flatMap EntD.cells)]) [Res.row lb 66 [.int .u64 (i : Nat), .int .u64 (t : Nat), lv], Res.vec 38 5 lv es.length (es.flatMap EntD.cells), Res.star (es.map EntD.dres), Res.row wb 48 [.int .u64 (j : Nat), .int .u64 (u : Nat), rv], Res.vec 38 5 rv ms.length (ms.flatMap EntD.cells), Res.row b5 55 (ActD.cells a)])) w1 (hw.frame0 hO)
            refine l_nil (fun w' hw => ?_)
            have hS := hw.sel [0, 1, 3, 4, 5] rfl (by decide)
            refine ⟨hS, ?_⟩
            refine h_one 11 (by kernel_rfl) rfl hw ?_
            refine l_call (by kernel_rfl) rfl rfl (fun w' hw => ?_)
            refine (rfits_s wb j u rv ms a.index a.term w' (by first | assumption | omega | (simp <;> omega) | (constructor <;> (first | omega | (simp only [LenOk]; omega) | (simp <;> omega)))) (by first | assumption | omega | (simp <;> omega) | (constructor <;> (first | omega | (simp only [LenOk]; omega) | (simp <;> omega)))) (hw.rdRes0 3 rfl) (hw.rdVec0 4 rfl) (fun p hp => EntD.rd.at0 (hms p hp) hw)).mono ?_
            rintro _ w1 ⟨rfl, hO⟩
            refine (?_ : CL _ _ _ _ _ _ (Own w (fps [Res.row lb 66 [.int .u64 (i : Nat), .int .u64 (t : Nat), lv], Res.vec 38 5 lv es.length (es.flatMap EntD.cells), Res.star (es.map EntD.dres), Res.row wb 48 [.int .u64 (j : Nat), .int .u64 (u : Nat), rv], Res.vec 38 5 rv ms.length (ms.flatMap EntD.cells)]) [Res.row lb 66 [.int .u64 (i : Nat), .int .u64 (t : Nat), lv], Res.vec 38 5 lv es.length (es.flatMap EntD.cells), Res.star (es.map EntD.dres), Res.row wb 48 [.int .u64 (j : Nat), .int .u64 (u : Nat), rv], Res.vec 38 5 rv ms.length (ms.flatMap EntD.cells), Res.row b5 55 (ActD.cells a)])) w1 (hw.frame0 hO)
            refine l_nil (fun w' hw => ?_)
            have hS := hw.sel [0, 1, 3, 4, 5] rfl (by decide)
            refine ⟨hS, ?_⟩
            refine h_take 12 rfl (by kernel_rfl) (by kernel_rfl) (by kernel_rfl) (v_beqp (by kernel_rfl) rfl rfl) rfl hS ?_
            refine h_take 13 rfl (by kernel_rfl) (by kernel_rfl) (by kernel_rfl) (v_mv) rfl hS ?_
            by_cases g17_13 : ((LG i t es).fits a.index a.term) ↔ ((LG j u ms).fits a.index a.term)
            ·
              refine h_takeg 14 rfl rfl (gT g17_13) (by kernel_rfl) (by kernel_rfl) (by kernel_rfl) (v_mv) rfl hS ?_
              refine h_takeg 15 rfl rfl (gT g17_13) (by kernel_rfl) (by kernel_rfl) (by kernel_rfl) (v_fld (o := 2) rfl (by kernel_rfl)) rfl hS ?_
              refine h_takeg 16 rfl rfl (gT g17_13) (by kernel_rfl) (by kernel_rfl) (by kernel_rfl) (v_ldo 4 (v := .int .u64 (a.index : Nat)) rfl rfl rfl (by kernel_rfl)) rfl hS ?_
              refine h_takeg 17 rfl rfl (gT g17_13) (by kernel_rfl) (by kernel_rfl) (by kernel_rfl) (v_fld (o := 3) rfl (by kernel_rfl)) rfl hS ?_
              refine h_takeg 18 rfl rfl (gT g17_13) (by kernel_rfl) (by kernel_rfl) (by kernel_rfl) (v_ldo 4 (v := .int .u64 (a.term : Nat)) rfl rfl rfl (by kernel_rfl)) rfl hS ?_
              refine h_takeg 20 rfl rfl (gT g17_13) (by kernel_rfl) (by kernel_rfl) (by kernel_rfl) (v_mv) rfl hS ?_
              refine h_takeg 21 rfl rfl (gT g17_13) (by kernel_rfl) (by kernel_rfl) (by kernel_rfl) (v_fld (o := 2) rfl (by kernel_rfl)) rfl hS ?_
              refine h_takeg 22 rfl rfl (gT g17_13) (by kernel_rfl) (by kernel_rfl) (by kernel_rfl) (v_ldo 4 (v := .int .u64 (a.index : Nat)) rfl rfl rfl (by kernel_rfl)) rfl hS ?_
              refine h_takeg 23 rfl rfl (gT g17_13) (by kernel_rfl) (by kernel_rfl) (by kernel_rfl) (v_fld (o := 3) rfl (by kernel_rfl)) rfl hS ?_
              refine h_takeg 24 rfl rfl (gT g17_13) (by kernel_rfl) (by kernel_rfl) (by kernel_rfl) (v_ldo 4 (v := .int .u64 (a.term : Nat)) rfl rfl rfl (by kernel_rfl)) rfl hS ?_
              refine h_one 19 (by kernel_rfl) rfl hw ?_
              refine l_on rfl (gT g17_13) ?_
              refine l_call (by kernel_rfl) rfl rfl (fun w' hw => ?_)
              refine (fresh_s lb i t lv es a.index a.term w' (by first | assumption | omega | (simp <;> omega) | (constructor <;> (first | omega | (simp only [LenOk]; omega) | (simp <;> omega)))) (by first | assumption | omega | (simp <;> omega) | (constructor <;> (first | omega | (simp only [LenOk]; omega) | (simp <;> omega)))) (hw.rdRes0 0 rfl) (hw.rdVec0 1 rfl) (EntD.rd.star0 2 rfl hw)).mono ?_
              rintro _ w1 ⟨rfl, hO⟩
              refine (?_ : CL _ _ _ _ _ _ (Own w (fps [Res.row lb 66 [.int .u64 (i : Nat), .int .u64 (t : Nat), lv], Res.vec 38 5 lv es.length (es.flatMap EntD.cells), Res.star (es.map EntD.dres), Res.row wb 48 [.int .u64 (j : Nat), .int .u64 (u : Nat), rv], Res.vec 38 5 rv ms.length (ms.flatMap EntD.cells)]) [Res.row lb 66 [.int .u64 (i : Nat), .int .u64 (t : Nat), lv], Res.vec 38 5 lv es.length (es.flatMap EntD.cells), Res.star (es.map EntD.dres), Res.row wb 48 [.int .u64 (j : Nat), .int .u64 (u : Nat), rv], Res.vec 38 5 rv ms.length (ms.flatMap EntD.cells), Res.row b5 55 (ActD.cells a)])) w1 (hw.frame0 hO)
              refine l_nil (fun w' hw => ?_)
              have hS := hw.sel [0, 1, 3, 4, 5] rfl (by decide)
              refine ⟨hS, ?_⟩
              refine h_one 25 (by kernel_rfl) rfl hw ?_
              refine l_on rfl (gT g17_13) ?_
              refine l_call (by kernel_rfl) rfl rfl (fun w' hw => ?_)
              refine (rfresh_s wb j u rv ms a.index a.term w' (by first | assumption | omega | (simp <;> omega) | (constructor <;> (first | omega | (simp only [LenOk]; omega) | (simp <;> omega)))) (by first | assumption | omega | (simp <;> omega) | (constructor <;> (first | omega | (simp only [LenOk]; omega) | (simp <;> omega)))) (hw.rdRes0 3 rfl) (hw.rdVec0 4 rfl) (fun p hp => EntD.rd.at0 (hms p hp) hw)).mono ?_
              rintro _ w1 ⟨rfl, hO⟩
              refine (?_ : CL _ _ _ _ _ _ (Own w (fps [Res.row lb 66 [.int .u64 (i : Nat), .int .u64 (t : Nat), lv], Res.vec 38 5 lv es.length (es.flatMap EntD.cells), Res.star (es.map EntD.dres), Res.row wb 48 [.int .u64 (j : Nat), .int .u64 (u : Nat), rv], Res.vec 38 5 rv ms.length (ms.flatMap EntD.cells)]) [Res.row lb 66 [.int .u64 (i : Nat), .int .u64 (t : Nat), lv], Res.vec 38 5 lv es.length (es.flatMap EntD.cells), Res.star (es.map EntD.dres), Res.row wb 48 [.int .u64 (j : Nat), .int .u64 (u : Nat), rv], Res.vec 38 5 rv ms.length (ms.flatMap EntD.cells), Res.row b5 55 (ActD.cells a)])) w1 (hw.frame0 hO)
              refine l_nil (fun w' hw => ?_)
              have hS := hw.sel [0, 1, 3, 4, 5] rfl (by decide)
              refine ⟨hS, ?_⟩
              refine h_takeg 26 rfl rfl (gT g17_13) (by kernel_rfl) (by kernel_rfl) (by kernel_rfl) (v_beqp (by kernel_rfl) rfl rfl) rfl hS ?_
              refine h_take 27 rfl (by kernel_rfl) (by kernel_rfl) (by kernel_rfl) (v_pickT (gT g17_13)) rfl hS ?_
              refine h_take 28 rfl (by kernel_rfl) (by kernel_rfl) (by kernel_rfl) (v_as) rfl hS ?_
              refine h_done (by kernel_rfl) ?_
              refine (?_ : C _ _ _ _ _ _ _ (Own w (fps [Res.row lb 66 [.int .u64 (i : Nat), .int .u64 (t : Nat), lv], Res.vec 38 5 lv es.length (es.flatMap EntD.cells), Res.star (es.map EntD.dres), Res.row wb 48 [.int .u64 (j : Nat), .int .u64 (u : Nat), rv], Res.vec 38 5 rv ms.length (ms.flatMap EntD.cells)]) [Res.row lb 66 [.int .u64 (i : Nat), .int .u64 (t : Nat), lv], Res.vec 38 5 lv es.length (es.flatMap EntD.cells), Res.star (es.map EntD.dres), Res.row wb 48 [.int .u64 (j : Nat), .int .u64 (u : Nat), rv], Res.vec 38 5 rv ms.length (ms.flatMap EntD.cells), Res.row b5 55 (ActD.cells a)])) _ hw
              exact c_ret (ret1 (v := .bool (decide (((LG i t es).fresh a.index a.term) ↔ ((LG j u ms).fresh a.index a.term)))) rfl rfl (fun w' hw => ⟨(decide (((LG i t es).fresh a.index a.term) ↔ ((LG j u ms).fresh a.index a.term))), i, t, lv, es, j, u, rv, ms, rfl, (fun he => by rw [decide_eq_true]; rw [he]), act_not c1 c2, act_not c1 c2, (fun p hp => .inl hp), hw.sel [0, 1, 2, 3, 4] rfl (by decide)⟩))
            ·
              refine h_offg 14 rfl rfl (gF g17_13) rfl (by kernel_rfl) (by kernel_rfl) (by kernel_rfl) rfl hS ?_
              refine h_offg 15 rfl rfl (gF g17_13) rfl (by kernel_rfl) (by kernel_rfl) (by kernel_rfl) rfl hS ?_
              refine h_offg 16 rfl rfl (gF g17_13) rfl (by kernel_rfl) (by kernel_rfl) (by kernel_rfl) rfl hS ?_
              refine h_offg 17 rfl rfl (gF g17_13) rfl (by kernel_rfl) (by kernel_rfl) (by kernel_rfl) rfl hS ?_
              refine h_offg 18 rfl rfl (gF g17_13) rfl (by kernel_rfl) (by kernel_rfl) (by kernel_rfl) rfl hS ?_
              refine h_offg 19 rfl rfl (gF g17_13) rfl (by kernel_rfl) (by kernel_rfl) (by kernel_rfl) rfl hS ?_
              refine h_offg 20 rfl rfl (gF g17_13) rfl (by kernel_rfl) (by kernel_rfl) (by kernel_rfl) rfl hS ?_
              refine h_offg 21 rfl rfl (gF g17_13) rfl (by kernel_rfl) (by kernel_rfl) (by kernel_rfl) rfl hS ?_
              refine h_offg 22 rfl rfl (gF g17_13) rfl (by kernel_rfl) (by kernel_rfl) (by kernel_rfl) rfl hS ?_
              refine h_offg 23 rfl rfl (gF g17_13) rfl (by kernel_rfl) (by kernel_rfl) (by kernel_rfl) rfl hS ?_
              refine h_offg 24 rfl rfl (gF g17_13) rfl (by kernel_rfl) (by kernel_rfl) (by kernel_rfl) rfl hS ?_
              refine h_offg 25 rfl rfl (gF g17_13) rfl (by kernel_rfl) (by kernel_rfl) (by kernel_rfl) rfl hS ?_
              refine h_offg 26 rfl rfl (gF g17_13) rfl (by kernel_rfl) (by kernel_rfl) (by kernel_rfl) rfl hS ?_
              refine h_take 27 rfl (by kernel_rfl) (by kernel_rfl) (by kernel_rfl) (v_pickF (gF g17_13)) rfl hS ?_
              refine h_take 28 rfl (by kernel_rfl) (by kernel_rfl) (by kernel_rfl) (v_as) rfl hS ?_
              refine h_done (by kernel_rfl) ?_
              refine (?_ : C _ _ _ _ _ _ _ (Own w (fps [Res.row lb 66 [.int .u64 (i : Nat), .int .u64 (t : Nat), lv], Res.vec 38 5 lv es.length (es.flatMap EntD.cells), Res.star (es.map EntD.dres), Res.row wb 48 [.int .u64 (j : Nat), .int .u64 (u : Nat), rv], Res.vec 38 5 rv ms.length (ms.flatMap EntD.cells)]) [Res.row lb 66 [.int .u64 (i : Nat), .int .u64 (t : Nat), lv], Res.vec 38 5 lv es.length (es.flatMap EntD.cells), Res.star (es.map EntD.dres), Res.row wb 48 [.int .u64 (j : Nat), .int .u64 (u : Nat), rv], Res.vec 38 5 rv ms.length (ms.flatMap EntD.cells), Res.row b5 55 (ActD.cells a)])) _ hw
              exact c_ret (ret1 (v := .bool false) rfl rfl (fun w' hw => ⟨false, i, t, lv, es, j, u, rv, ms, rfl, (fun he => absurd (by rw [he]) g17_13), act_not c1 c2, act_not c1 c2, (fun p hp => .inl hp), hw.sel [0, 1, 2, 3, 4] rfl (by decide)⟩))
          ·
            refine c_reg ?_
            refine l_eq rfl rfl rfl ?_
            refine l_as rfl ?_
            refine l_end ?_
            refine c_dec rfl (fun c6 => ?_) (fun c6 => ?_)
            ·
              refine c_reg ?_
              refine l_as rfl ?_
              refine l_end ?_
              exact c_ret (ret1 (v := .bool true) rfl rfl (fun w' hw => ⟨true, i, t, lv, es, j, u, rv, ms, rfl, (fun he => rfl), act_not c1 c2, act_not c1 c2, (fun p hp => .inl hp), hw.sel [0, 1, 2, 3, 4] rfl (by decide)⟩))
            ·
              refine c_skipC ?_
              refine c_reg ?_
              refine l_mv rfl ?_
              refine l_fld (o := 2) rfl (by kernel_rfl) rfl ?_
              refine l_ldo 5 (v := .int .u64 (a.index : Nat)) rfl rfl rfl (by kernel_rfl) rfl ?_
              refine l_call (by kernel_rfl) rfl rfl (fun w' hw => ?_)
              refine (term_s lb i t lv es a.index w' (by first | assumption | omega | (simp <;> omega) | (constructor <;> (first | omega | (simp only [LenOk]; omega) | (simp <;> omega)))) (by first | assumption | omega | (simp <;> omega) | (constructor <;> (first | omega | (simp only [LenOk]; omega) | (simp <;> omega)))) (by first | assumption | omega | (simp <;> omega) | (constructor <;> (first | omega | (simp only [LenOk]; omega) | (simp <;> omega)))) (hw.rdRes0 0 rfl) (hw.rdVec0 1 rfl) (EntD.rd.star0 2 rfl hw)).mono ?_
              rintro _ w1 ⟨x33_, e34_, rfl, hf20_3, hO⟩
              refine (?_ : CL _ _ _ _ _ _ (Own w (fps [Res.row lb 66 [.int .u64 (i : Nat), .int .u64 (t : Nat), lv], Res.vec 38 5 lv es.length (es.flatMap EntD.cells), Res.star (es.map EntD.dres), Res.row wb 48 [.int .u64 (j : Nat), .int .u64 (u : Nat), rv], Res.vec 38 5 rv ms.length (ms.flatMap EntD.cells)]) [Res.row lb 66 [.int .u64 (i : Nat), .int .u64 (t : Nat), lv], Res.vec 38 5 lv es.length (es.flatMap EntD.cells), Res.star (es.map EntD.dres), Res.row wb 48 [.int .u64 (j : Nat), .int .u64 (u : Nat), rv], Res.vec 38 5 rv ms.length (ms.flatMap EntD.cells), Res.row b5 55 (ActD.cells a)])) w1 (hw.frame0 hO)
              refine l_mv rfl ?_
              refine l_ext (vs := [.int .u64 (x33_ : Nat), .int .i64 e34_]) rfl rfl rfl ?_
              refine l_ext (vs := [.int .u64 (x33_ : Nat), .int .i64 e34_]) rfl rfl rfl ?_
              refine l_as rfl ?_
              refine l_as rfl ?_
              refine l_end ?_
              refine c_reg ?_
              refine l_mv rfl ?_
              refine l_fld (o := 2) rfl (by kernel_rfl) rfl ?_
              refine l_ldo 5 (v := .int .u64 (a.index : Nat)) rfl rfl rfl (by kernel_rfl) rfl ?_
              refine l_call (by kernel_rfl) rfl rfl (fun w' hw => ?_)
              refine (rterm_s wb j u rv ms a.index w' (by first | assumption | omega | (simp <;> omega) | (constructor <;> (first | omega | (simp only [LenOk]; omega) | (simp <;> omega)))) (by first | assumption | omega | (simp <;> omega) | (constructor <;> (first | omega | (simp only [LenOk]; omega) | (simp <;> omega)))) (hw.rdRes0 3 rfl) (hw.rdVec0 4 rfl) (fun p hp => EntD.rd.at0 (hms p hp) hw)).mono ?_
              rintro _ w1 ⟨x35_, e36_, rfl, hf21_3, hO⟩
              refine (?_ : CL _ _ _ _ _ _ (Own w (fps [Res.row lb 66 [.int .u64 (i : Nat), .int .u64 (t : Nat), lv], Res.vec 38 5 lv es.length (es.flatMap EntD.cells), Res.star (es.map EntD.dres), Res.row wb 48 [.int .u64 (j : Nat), .int .u64 (u : Nat), rv], Res.vec 38 5 rv ms.length (ms.flatMap EntD.cells)]) [Res.row lb 66 [.int .u64 (i : Nat), .int .u64 (t : Nat), lv], Res.vec 38 5 lv es.length (es.flatMap EntD.cells), Res.star (es.map EntD.dres), Res.row wb 48 [.int .u64 (j : Nat), .int .u64 (u : Nat), rv], Res.vec 38 5 rv ms.length (ms.flatMap EntD.cells), Res.row b5 55 (ActD.cells a)])) w1 (hw.frame0 hO)
              refine l_mv rfl ?_
              refine l_ext (vs := [.int .u64 (x35_ : Nat), .int .i64 e36_]) rfl rfl rfl ?_
              refine l_ext (vs := [.int .u64 (x35_ : Nat), .int .i64 e36_]) rfl rfl rfl ?_
              refine l_as rfl ?_
              refine l_as rfl ?_
              refine l_end ?_
              refine c_reg ?_
              refine l_mv rfl ?_
              refine l_mv rfl ?_
              refine l_eq rfl rfl rfl ?_
              refine l_mv rfl ?_
              refine l_band (q := ((x33_ : Nat) : Int) = ((x35_ : Nat) : Int)) 3 3 [186, 185, 184] (e34_ = e36_) rfl rfl rfl rfl rfl rfl trivial rfl (fun h22_3 => ?_) (fun g22_7 => ?_)
              ·
                refine l_on rfl (gT h22_3) ?_
                refine l_mv rfl ?_
                refine l_on rfl (gT h22_3) ?_
                refine l_mv rfl ?_
                refine l_on rfl (gT h22_3) ?_
                refine l_eq rfl rfl rfl ?_
                exact l_nil (fun w' hw => ⟨(by repeat (first | exact Out.refl _ _ | refine Out.upd rfl ?_ | refine Out.msk rfl ?_)), rfl, hw⟩)
              refine l_as rfl ?_
              refine l_end ?_
              exact c_ret (ret1 (v := .bool (decide ((((x33_ : Nat) : Int) = ((x35_ : Nat) : Int)) ∧ (e34_ = e36_)))) rfl rfl (fun w' hw => ⟨(decide ((((x33_ : Nat) : Int) = ((x35_ : Nat) : Int)) ∧ (e34_ = e36_))), i, t, lv, es, j, u, rv, ms, rfl, (fun he => by rw [decide_eq_true]; have h := pair_eq hf20_3 hf21_3 (by rw [he]); omega), act_not c1 c2, act_not c1 c2, (fun p hp => .inl hp), hw.sel [0, 1, 2, 3, 4] rfl (by decide)⟩))
theorem act_s (lb i t : Nat) (lv : Value) (es : List EntD) (wb j u : Nat) (rv : Value) (ms : List EntD) (a : ActD) (w : World) (hl : es.length ≤ 10000000000) (hg : (LG i t es).good) (he : LG j u ms = LG i t es) (ha : a.wf) (hms : ∀ p ∈ ms, EntD.rd p w (fps [Res.row lb 66 [.int .u64 (i : Nat), .int .u64 (t : Nat), lv], Res.vec 38 5 lv es.length (es.flatMap EntD.cells), Res.star (es.map EntD.dres), Res.row wb 48 [.int .u64 (j : Nat), .int .u64 (u : Nat), rv], Res.vec 38 5 rv ms.length (ms.flatMap EntD.cells)])) (rd_a : ActD.rd a w (fps [Res.row lb 66 [.int .u64 (i : Nat), .int .u64 (t : Nat), lv], Res.vec 38 5 lv es.length (es.flatMap EntD.cells), Res.star (es.map EntD.dres), Res.row wb 48 [.int .u64 (j : Nat), .int .u64 (u : Nat), rv], Res.vec 38 5 rv ms.length (ms.flatMap EntD.cells)])) (hin : Own w (fps [Res.row lb 66 [.int .u64 (i : Nat), .int .u64 (t : Nat), lv], Res.vec 38 5 lv es.length (es.flatMap EntD.cells), Res.star (es.map EntD.dres), Res.row wb 48 [.int .u64 (j : Nat), .int .u64 (u : Nat), rv], Res.vec 38 5 rv ms.length (ms.flatMap EntD.cells)]) [Res.row lb 66 [.int .u64 (i : Nat), .int .u64 (t : Nat), lv], Res.vec 38 5 lv es.length (es.flatMap EntD.cells), Res.star (es.map EntD.dres), Res.row wb 48 [.int .u64 (j : Nat), .int .u64 (u : Nat), rv], Res.vec 38 5 rv ms.length (ms.flatMap EntD.cells)] w) : Rets Try.prog 25 #[.pointer (some ⟨lb, 0, none⟩), .pointer (some ⟨wb, 0, none⟩), .agg (ActD.cells a).toArray] w fun u_ w' => ∃ (i' : Nat) (t' : Nat) (lv' : Value) (es' : List EntD) (j' : Nat) (u' : Nat) (rv' : Value) (ms' : List EntD), u_ = .bool true ∧ LG i' t' es' = (LG i t es).act a ∧ LG j' u' ms' = LG i' t' es' ∧ (∀ p ∈ ms', p ∈ ms ∨ p ∈ a.list) ∧ Own w (fps [Res.row lb 66 [.int .u64 (i : Nat), .int .u64 (t : Nat), lv], Res.vec 38 5 lv es.length (es.flatMap EntD.cells), Res.star (es.map EntD.dres), Res.row wb 48 [.int .u64 (j : Nat), .int .u64 (u : Nat), rv], Res.vec 38 5 rv ms.length (ms.flatMap EntD.cells)]) [Res.row lb 66 [.int .u64 (i' : Nat), .int .u64 (t' : Nat), lv'], Res.vec 38 5 lv' es'.length (es'.flatMap EntD.cells), Res.star (es'.map EntD.dres), Res.row wb 48 [.int .u64 (j' : Nat), .int .u64 (u' : Nat), rv'], Res.vec 38 5 rv' ms'.length (ms'.flatMap EntD.cells)] w' := by
  have hg2 : (LG j u ms).good := he ▸ hg
  have hq := LG.map_eq he
  refine (act_g lb i t lv es wb j u rv ms a w hl hg (by omega) hg2 ha hms rd_a hin).mono ?_
  rintro _ w' ⟨r, i', t', lv', es', j', u', rv', ms', rfl, h1, h2, h3, h4, hO⟩
  exact ⟨i', t', lv', es', j', u', rv', ms', by rw [h1 he], h2, by rw [h3, h2, he], h4, hO⟩
theorem alike_s (lb i t : Nat) (lv : Value) (es : List EntD) (wb j u : Nat) (rv : Value) (ms : List EntD) (w : World) (hl : es.length ≤ 10000000000) (hg : (LG i t es).good) (he : LG j u ms = LG i t es) (hlb : Rd w [] (Res.row lb 66 [.int .u64 (i : Nat), .int .u64 (t : Nat), lv])) (hwb : Rd w [] (Res.row wb 48 [.int .u64 (j : Nat), .int .u64 (u : Nat), rv])) (hlv : Rd w [] (Res.sl lv es.length (es.flatMap EntD.cells))) (all_hlv : ∀ p ∈ es, EntD.rd p w []) (hrv : Rd w [] (Res.sl rv ms.length (ms.flatMap EntD.cells))) (all_hrv : ∀ p ∈ ms, EntD.rd p w []) : Rets Try.prog 22 #[.pointer (some ⟨lb, 0, none⟩), .pointer (some ⟨wb, 0, none⟩)] w fun u_ w' => u_ = .bool true ∧ Own w [] [] w' := by
  have hb := (LG.le hg).1
  have hg2 : (LG j u ms).good := he ▸ hg
  have hq := LG.map_eq he
  refine fn_enter (args := [.pointer (some ⟨lb, 0, none⟩), .pointer (some ⟨wb, 0, none⟩)]) Try.func22 rfl Try.ntmps22 rfl (Own.start w) ?_
  refine c_reg ?_
  refine l_as rfl ?_
  refine l_end ?_
  refine c_reg ?_
  refine l_mv rfl ?_
  refine l_call (by kernel_rfl) rfl rfl (fun w' hw => ?_)
  refine (base_s lb i t lv es w' (hw.rd0 hlb) (hw.rd0 hlv) (fun p hp => EntD.rd.at0 (all_hlv p hp) hw)).mono ?_
  rintro _ w1 ⟨rfl, hO⟩
  refine (?_ : CL _ _ _ _ _ _ (Own w [] [])) w1 (hw.frame0 hO)
  refine l_mv rfl ?_
  refine l_ext (vs := [.int .u64 (i : Nat), .int .u64 (t : Nat)]) rfl rfl rfl ?_
  refine l_ext (vs := [.int .u64 (i : Nat), .int .u64 (t : Nat)]) rfl rfl rfl ?_
  refine l_as rfl ?_
  refine l_as rfl ?_
  refine l_end ?_
  refine c_reg ?_
  refine l_mv rfl ?_
  refine l_call (by kernel_rfl) rfl rfl (fun w' hw => ?_)
  refine (last_s lb i t lv es w' (by first | assumption | omega | (simp <;> omega) | (constructor <;> (first | omega | (simp only [LenOk]; omega) | (simp <;> omega)))) (by first | assumption | omega | (simp <;> omega) | (constructor <;> (first | omega | (simp only [LenOk]; omega) | (simp <;> omega)))) (hw.rd0 hlb) (hw.rd0 hlv) (fun p hp => EntD.rd.at0 (all_hlv p hp) hw)).mono ?_
  rintro _ w1 ⟨rfl, hO⟩
  refine (?_ : CL _ _ _ _ _ _ (Own w [] [])) w1 (hw.frame0 hO)
  refine l_mv rfl ?_
  refine l_ext (vs := [.int .u64 (i + es.length : Nat), .int .u64 ((LG i t es).end_ : Nat)]) rfl rfl rfl ?_
  refine l_ext (vs := [.int .u64 (i + es.length : Nat), .int .u64 ((LG i t es).end_ : Nat)]) rfl rfl rfl ?_
  refine l_as rfl ?_
  refine l_as rfl ?_
  refine l_end ?_
  refine c_reg ?_
  refine l_mv rfl ?_
  refine l_call (by kernel_rfl) rfl rfl (fun w' hw => ?_)
  refine (rlast_s wb j u rv ms w' (by first | assumption | omega | (simp <;> omega) | (constructor <;> (first | omega | (simp only [LenOk]; omega) | (simp <;> omega)))) (by first | assumption | omega | (simp <;> omega) | (constructor <;> (first | omega | (simp only [LenOk]; omega) | (simp <;> omega)))) (hw.rd0 hwb) (hw.rd0 hrv) (fun p hp => EntD.rd.at0 (all_hrv p hp) hw)).mono ?_
  rintro _ w1 ⟨rfl, hO⟩
  refine (?_ : CL _ _ _ _ _ _ (Own w [] [])) w1 (hw.frame0 hO)
  refine l_mv rfl ?_
  refine l_ext (vs := [.int .u64 (j + ms.length : Nat), .int .u64 ((LG j u ms).end_ : Nat)]) rfl rfl rfl ?_
  refine l_ext (vs := [.int .u64 (j + ms.length : Nat), .int .u64 ((LG j u ms).end_ : Nat)]) rfl rfl rfl ?_
  refine l_as rfl ?_
  refine l_as rfl ?_
  refine l_end ?_
  refine c_seq ?_
  refine c_heldo [] rfl (by decide) (by kernel_rfl) (fun w' hw hS => ?_)
  refine h_take 0 rfl (by kernel_rfl) (by kernel_rfl) (by kernel_rfl) (v_mv) rfl hS ?_
  refine h_take 1 rfl (by kernel_rfl) (by kernel_rfl) (by kernel_rfl) (v_mv) rfl hS ?_
  refine h_take 2 rfl (by kernel_rfl) (by kernel_rfl) (by kernel_rfl) (v_nck rfl) rfl hS ?_
  refine h_take 3 rfl (by kernel_rfl) (by kernel_rfl) (by kernel_rfl) (v_fld (o := 0) rfl (by kernel_rfl)) rfl hS ?_
  refine h_take 4 rfl (by kernel_rfl) (by kernel_rfl) (by kernel_rfl) (v_ldq (v := .int .u64 (j : Nat)) rfl (hwb.φ.cell rfl) (hwb.far _ (by simp [Res.row])) (by kernel_rfl)) rfl hS ?_
  refine h_take 5 rfl (by kernel_rfl) (by kernel_rfl) (by kernel_rfl) (v_add rfl rfl (wu64 (by omega))) rfl hS ?_
  refine h_take 6 rfl (by kernel_rfl) (by kernel_rfl) (by kernel_rfl) (v_mv) rfl hS ?_
  refine h_take 7 rfl (by kernel_rfl) (by kernel_rfl) (by kernel_rfl) (v_nck rfl) rfl hS ?_
  refine h_take 8 rfl (by kernel_rfl) (by kernel_rfl) (by kernel_rfl) (v_fld (o := 2) rfl (by kernel_rfl)) rfl hS ?_
  refine h_take 9 rfl (by kernel_rfl) (by kernel_rfl) (by kernel_rfl) (v_ldq (v := rv) rfl (hwb.φ.cell rfl) (hwb.far _ (by simp [Res.row])) (by kernel_rfl)) rfl hS ?_
  refine h_take 10 rfl (by kernel_rfl) (by kernel_rfl) (by kernel_rfl) (v_lenS (len := ms.length) (cs := (ms.flatMap EntD.cells)) (by kernel_rfl) rfl (fun w' hw' => Own.rd hrv hw')) rfl hS ?_
  refine h_take 11 rfl (by kernel_rfl) (by kernel_rfl) (by kernel_rfl) (v_add rfl rfl (wi64 (by omega))) rfl hS ?_
  refine h_one 12 (by kernel_rfl) rfl hw ?_
  refine l_call (by kernel_rfl) rfl rfl (fun w' hw => ?_)
  refine (from_s lb i t lv es (j + 1) ((ms.length + 9 : Nat) : Int) w' (by first | assumption | omega | (simp <;> omega) | (constructor <;> (first | omega | (simp only [LenOk]; omega) | (simp <;> omega)))) (by first | assumption | omega | (simp <;> omega) | (constructor <;> (first | omega | (simp only [LenOk]; omega) | (simp <;> omega)))) (hw.rd0 hlb) (hw.rd0 hlv) (fun p hp => EntD.rd.at0 (all_hlv p hp) hw)).mono ?_
  rintro _ w1 ⟨r1_, rs2_, e3_, rfl, hf4_12, hO⟩
  have hfa := from_all (show (LG i t es).fromE (i + 1) _ = _ from hq.1 ▸ hf4_12) (by omega)
  have hd := LG.from_data hg hf4_12
  refine (?_ : CL _ _ _ _ _ _ (Own w [] [Res.vec 38 5 r1_ rs2_.length (rs2_.flatMap EntD.cells), Res.star (rs2_.map EntD.dres)])) w1 (hw.frame0 hO)
  refine l_nil (fun w' hw => ?_)
  have hS := hw.sel [] rfl (by decide)
  refine ⟨hS, ?_⟩
  refine h_take 13 rfl (by kernel_rfl) (by kernel_rfl) (by kernel_rfl) (v_mv) rfl hS ?_
  refine h_take 14 rfl (by kernel_rfl) (by kernel_rfl) (by kernel_rfl) (v_ext (vs := [r1_, .int .i64 e3_]) rfl rfl) rfl hS ?_
  refine h_take 15 rfl (by kernel_rfl) (by kernel_rfl) (by kernel_rfl) (v_ext (vs := [r1_, .int .i64 e3_]) rfl rfl) rfl hS ?_
  refine h_take 16 rfl (by kernel_rfl) (by kernel_rfl) (by kernel_rfl) (v_as) rfl hS ?_
  refine h_take 17 rfl (by kernel_rfl) (by kernel_rfl) (by kernel_rfl) (v_as) rfl hS ?_
  refine h_done (by kernel_rfl) ?_
  refine (?_ : C _ _ _ _ _ _ _ (Own w [] [Res.vec 38 5 r1_ rs2_.length (rs2_.flatMap EntD.cells), Res.star (rs2_.map EntD.dres)])) _ hw
  refine c_reg ?_
  refine l_mv rfl ?_
  refine l_mv rfl ?_
  refine l_nck rfl rfl ?_
  refine l_fld (o := 0) rfl (by kernel_rfl) rfl ?_
  refine l_ldq (v := .int .u64 (j : Nat)) rfl (hwb.φ.cell rfl) (hwb.far _ (by simp [Res.row])) (by kernel_rfl) rfl ?_
  refine l_eq rfl rfl rfl ?_
  refine l_mv rfl ?_
  refine l_band (q := ((i : Nat) : Int) = ((j : Nat) : Int)) 6 6 [56, 55, 54, 53, 52, 51] (((t : Nat) : Int) = ((u : Nat) : Int)) rfl rfl rfl rfl rfl rfl trivial rfl (fun h5_6 => ?_) (fun g5_13 => ?_)
  ·
    refine l_on rfl (gT h5_6) ?_
    refine l_mv rfl ?_
    refine l_on rfl (gT h5_6) ?_
    refine l_mv rfl ?_
    refine l_on rfl (gT h5_6) ?_
    refine l_nck rfl rfl ?_
    refine l_on rfl (gT h5_6) ?_
    refine l_fld (o := 1) rfl (by kernel_rfl) rfl ?_
    refine l_on rfl (gT h5_6) ?_
    refine l_ldq (v := .int .u64 (u : Nat)) rfl (hwb.φ.cell rfl) (hwb.far _ (by simp [Res.row])) (by kernel_rfl) rfl ?_
    refine l_on rfl (gT h5_6) ?_
    refine l_eq rfl rfl rfl ?_
    exact l_nil (fun w' hw => ⟨(by repeat (first | exact Out.refl _ _ | refine Out.upd rfl ?_ | refine Out.msk rfl ?_)), rfl, hw⟩)
  refine l_mv rfl ?_
  refine l_band (q := (((i : Nat) : Int) = ((j : Nat) : Int)) ∧ (((t : Nat) : Int) = ((u : Nat) : Int))) 3 14 [61, 60, 59] (((i + es.length : Nat) : Int) = ((j + ms.length : Nat) : Int)) rfl rfl rfl rfl rfl rfl trivial rfl (fun h5_14 => ?_) (fun g5_18 => ?_)
  ·
    refine l_on rfl (gT h5_14) ?_
    refine l_mv rfl ?_
    refine l_on rfl (gT h5_14) ?_
    refine l_mv rfl ?_
    refine l_on rfl (gT h5_14) ?_
    refine l_eq rfl rfl rfl ?_
    exact l_nil (fun w' hw => ⟨(by repeat (first | exact Out.refl _ _ | refine Out.upd rfl ?_ | refine Out.msk rfl ?_)), rfl, hw⟩)
  refine l_mv rfl ?_
  refine l_band (q := ((((i : Nat) : Int) = ((j : Nat) : Int)) ∧ (((t : Nat) : Int) = ((u : Nat) : Int))) ∧ (((i + es.length : Nat) : Int) = ((j + ms.length : Nat) : Int))) 3 19 [66, 65, 64] ((((LG i t es).end_ : Nat) : Int) = (((LG j u ms).end_ : Nat) : Int)) rfl rfl rfl rfl rfl rfl trivial rfl (fun h5_19 => ?_) (fun g5_23 => ?_)
  ·
    refine l_on rfl (gT h5_19) ?_
    refine l_mv rfl ?_
    refine l_on rfl (gT h5_19) ?_
    refine l_mv rfl ?_
    refine l_on rfl (gT h5_19) ?_
    refine l_eq rfl rfl rfl ?_
    exact l_nil (fun w' hw => ⟨(by repeat (first | exact Out.refl _ _ | refine Out.upd rfl ?_ | refine Out.msk rfl ?_)), rfl, hw⟩)
  refine l_mv rfl ?_
  refine l_band (q := (((((i : Nat) : Int) = ((j : Nat) : Int)) ∧ (((t : Nat) : Int) = ((u : Nat) : Int))) ∧ (((i + es.length : Nat) : Int) = ((j + ms.length : Nat) : Int))) ∧ ((((LG i t es).end_ : Nat) : Int) = (((LG j u ms).end_ : Nat) : Int))) 2 24 [70, 69] (e3_ = 0) rfl rfl rfl rfl rfl rfl trivial rfl (fun h5_24 => ?_) (fun g5_27 => ?_)
  ·
    refine l_on rfl (gT h5_24) ?_
    refine l_mv rfl ?_
    refine l_on rfl (gT h5_24) ?_
    refine l_eq rfl rfl rfl ?_
    exact l_nil (fun w' hw => ⟨(by repeat (first | exact Out.refl _ _ | refine Out.upd rfl ?_ | refine Out.msk rfl ?_)), rfl, hw⟩)
  refine l_mv rfl ?_
  refine l_band (q := ((((((i : Nat) : Int) = ((j : Nat) : Int)) ∧ (((t : Nat) : Int) = ((u : Nat) : Int))) ∧ (((i + es.length : Nat) : Int) = ((j + ms.length : Nat) : Int))) ∧ ((((LG i t es).end_ : Nat) : Int) = (((LG j u ms).end_ : Nat) : Int))) ∧ (e3_ = 0)) 6 28 [78, 77, 76, 75, 74, 73] (rs2_.map EntD.toEntA = ms.map EntD.toEntA) rfl rfl rfl rfl rfl rfl trivial rfl (fun h5_28 => ?_) (fun g5_35 => ?_)
  ·
    refine l_on rfl (gT h5_28) ?_
    refine l_mv rfl ?_
    refine l_on rfl (gT h5_28) ?_
    refine l_mv rfl ?_
    refine l_on rfl (gT h5_28) ?_
    refine l_nck rfl rfl ?_
    refine l_on rfl (gT h5_28) ?_
    refine l_fld (o := 2) rfl (by kernel_rfl) rfl ?_
    refine l_on rfl (gT h5_28) ?_
    refine l_ldq (v := rv) rfl (hwb.φ.cell rfl) (hwb.far _ (by simp [Res.row])) (by kernel_rfl) rfl ?_
    refine l_on rfl (gT h5_28) ?_
    refine l_call (by kernel_rfl) rfl rfl (fun w' hw => ?_)
    refine (sameEnts_s r1_ rs2_ rv ms w' (by have := hd.2; show _ ≤ _; omega) (by show _ ≤ _; omega) (fun e he' => by have := hd.1 e he'; omega) (fun e he' => by have := LG.data hg2 e he'; omega) (hw.rdVec0 0 rfl) (EntD.rd.star0 1 rfl hw) (hw.rd0 hrv) (fun p hp => EntD.rd.at0 (all_hrv p hp) hw)).mono ?_
    rintro _ w1 ⟨rfl, hO⟩
    refine (?_ : CL _ _ _ _ _ _ (Own w [] [Res.vec 38 5 r1_ rs2_.length (rs2_.flatMap EntD.cells), Res.star (rs2_.map EntD.dres)])) w1 (hw.frame0 hO)
    exact l_nil (fun w' hw => ⟨(by repeat (first | exact Out.refl _ _ | refine Out.upd rfl ?_ | refine Out.msk rfl ?_)), rfl, hw⟩)
  refine l_as rfl ?_
  refine l_end ?_
  exact c_ret (ret1 (v := .bool (decide ((((((((i : Nat) : Int) = ((j : Nat) : Int)) ∧ (((t : Nat) : Int) = ((u : Nat) : Int))) ∧ (((i + es.length : Nat) : Int) = ((j + ms.length : Nat) : Int))) ∧ ((((LG i t es).end_ : Nat) : Int) = (((LG j u ms).end_ : Nat) : Int))) ∧ (e3_ = 0)) ∧ (rs2_.map EntD.toEntA = ms.map EntD.toEntA)))) rfl rfl (fun w' hw => ⟨(by rw [decide_eq_true]; exact ⟨⟨⟨⟨⟨by omega, by omega⟩, by omega⟩, by rw [he]⟩, hfa.1⟩, by rw [hfa.2, hq.2.2.1]⟩), hw.drop⟩))
abbrev E6 : EntD := { index := 6, term := 2, kind := 1, delta := 0, dv := .slice none 0 0, data := [] }
theorem ans6 : (LG 5 2 []).ans 5 2 ([E6].map EntD.toEntA) = (6, 6, 0) := by decide +kernel
theorem fit6 : ((LG 5 2 []).append 5 2 ([E6].map EntD.toEntA)).fits 6 2 := by decide +kernel
theorem good0 {i t : Nat} (h1 : i ≤ 4611686018427387904) (h2 : t ≤ 4611686018427387904) : (LG i t []).good := ⟨h1, h2, trivial⟩
theorem answers_s (w : World) : Rets Try.prog 10 #[] w fun u_ w' => u_ = .bool true ∧ Own w [] [] w' := by
  refine fn_enter (args := []) Try.func10 rfl Try.ntmps10 rfl (Own.start w) ?_
  refine c_reg ?_
  refine l_as rfl ?_
  refine l_end ?_
  refine c_reg ?_
  refine l_call (by kernel_rfl) rfl rfl (fun w' hw => ?_)
  refine (new_s 5 2 w' (by first | assumption | omega | (simp <;> omega) | (constructor <;> (first | omega | (simp only [LenOk]; omega) | (simp <;> omega)))) (by first | assumption | omega | (simp <;> omega) | (constructor <;> (first | omega | (simp only [LenOk]; omega) | (simp <;> omega))))).mono ?_
  rintro _ w1 ⟨b1_, rfl, hO⟩
  refine (?_ : CL _ _ _ _ _ _ (Own w [] [Res.row b1_ 66 [.int .u64 (5 : Nat), .int .u64 (2 : Nat), (.slice none 0 0)], Res.vec 38 5 (.slice none 0 0) ([] : List EntD).length (([] : List EntD).flatMap EntD.cells), Res.star (([] : List EntD).map EntD.dres)])) w1 (hw.frame0 hO)
  refine l_as rfl ?_
  refine l_end ?_
  refine c_seq ?_
  refine c_reg ?_
  refine l_mv rfl ?_
  refine l_nilp (by kernel_rfl) rfl rfl rfl ?_
  refine l_end ?_
  refine c_no rfl ?_
  refine c_skipC ?_
  refine c_reg ?_
  refine l_mv rfl ?_
  refine l_bld (cs := [.int .u64 (6 : Nat), .int .u64 (2 : Nat), .int .i64 1, .int .i64 0, .slice none 0 0]) (z := [.int .u64 (0 : Nat), .int .u64 (0 : Nat), .int .i64 0, .int .i64 0, .slice none 0 0]) (pl := [(0, 1), (1, 1), (2, 1), (3, 1), (4, 1)]) (by kernel_rfl) (by kernel_rfl) rfl ?_
  refine l_bsl (e := 38) (sz := 5) (vs := [.agg #[.int .u64 (6 : Nat), .int .u64 (2 : Nat), .int .i64 1, .int .i64 0, .slice none 0 0]]) (by kernel_rfl) rfl rfl (by simp [Value.cells, EntD.cells]) (by decide) rfl (fun b11 => ?_)
  refine l_call (by kernel_rfl) rfl rfl (fun w' hw => ?_)
  refine (append_s b1_ 5 2 (.slice none 0 0) [] 5 2 (.slice (some ⟨b11, 0, none⟩) 1 1) [({ index := 6, term := 2, kind := 1, delta := 0, dv := .slice none 0 0, data := [] } : EntD)] w' (by decide) (good0 (by decide) (by decide)) (fun e he => by simp at he; subst he; exact ⟨by decide, by decide, by decide⟩) (by decide) (hw.rdVec 3 rfl [0, 1, 2] rfl rfl) (all_cons ⟨Rd.nil⟩ (fun p hp => by cases hp)) (hw.give [0, 1, 2] rfl (by decide))).mono ?_
  rintro _ w1 ⟨lv'2_, es'3_, x4_, y5_, e6_, rfl, hf4_3, hf4_3_1, hO⟩
  have hans := hf4_3_1.symm.trans ans6
  simp only [Prod.mk.injEq] at hans
  have hgd : (LG 5 2 es'3_).good := by rw [hf4_3]; exact LogA.append_good (good0 (by decide) (by decide))
  have hln : (es'3_).length ≤ 1 := by have h := LogA.append_len (LG 5 2 []) 5 2 ([E6].map EntD.toEntA); have h2 := congrArg (fun x : LogA => x.l.length) hf4_3; simp only [List.length_map] at h2; rw [h2]; exact h
  refine (?_ : CL _ _ _ _ _ _ (Own w [] [Res.vec 38 5 (.slice (some ⟨b11, 0, none⟩) 1 1) [({ index := 6, term := 2, kind := 1, delta := 0, dv := .slice none 0 0, data := [] } : EntD)].length ([({ index := 6, term := 2, kind := 1, delta := 0, dv := .slice none 0 0, data := [] } : EntD)].flatMap EntD.cells), Res.row b1_ 66 [.int .u64 (5 : Nat), .int .u64 (2 : Nat), lv'2_], Res.vec 38 5 lv'2_ es'3_.length (es'3_.flatMap EntD.cells), Res.star (es'3_.map EntD.dres)])) w1 (hw.frameL [0, 1, 2] rfl hO)
  refine l_mv rfl ?_
  refine l_ext (vs := [.int .u64 (x4_ : Nat), .int .u64 (y5_ : Nat), .int .i64 e6_]) rfl rfl rfl ?_
  refine l_ext (vs := [.int .u64 (x4_ : Nat), .int .u64 (y5_ : Nat), .int .i64 e6_]) rfl rfl rfl ?_
  refine l_ext (vs := [.int .u64 (x4_ : Nat), .int .u64 (y5_ : Nat), .int .i64 e6_]) rfl rfl rfl ?_
  refine l_as rfl ?_
  refine l_as rfl ?_
  refine l_as rfl ?_
  refine l_end ?_
  refine c_reg ?_
  refine l_mv rfl ?_
  refine l_eq rfl rfl rfl ?_
  refine l_mv rfl ?_
  refine l_band (q := e6_ = 0) 2 2 [20, 19] (((x4_ : Nat) : Int) = ((6 : Nat) : Int)) rfl rfl rfl rfl rfl rfl trivial rfl (fun h5_2 => ?_) (fun g5_5 => ?_)
  ·
    refine l_on rfl (gT h5_2) ?_
    refine l_mv rfl ?_
    refine l_on rfl (gT h5_2) ?_
    refine l_eq rfl rfl rfl ?_
    exact l_nil (fun w' hw => ⟨(by repeat (first | exact Out.refl _ _ | refine Out.upd rfl ?_ | refine Out.msk rfl ?_)), rfl, hw⟩)
  refine l_mv rfl ?_
  refine l_band (q := (e6_ = 0) ∧ (((x4_ : Nat) : Int) = ((6 : Nat) : Int))) 2 6 [24, 23] (((y5_ : Nat) : Int) = ((6 : Nat) : Int)) rfl rfl rfl rfl rfl rfl trivial rfl (fun h5_6 => ?_) (fun g5_9 => ?_)
  ·
    refine l_on rfl (gT h5_6) ?_
    refine l_mv rfl ?_
    refine l_on rfl (gT h5_6) ?_
    refine l_eq rfl rfl rfl ?_
    exact l_nil (fun w' hw => ⟨(by repeat (first | exact Out.refl _ _ | refine Out.upd rfl ?_ | refine Out.msk rfl ?_)), rfl, hw⟩)
  refine l_mv rfl ?_
  refine l_band (q := ((e6_ = 0) ∧ (((x4_ : Nat) : Int) = ((6 : Nat) : Int))) ∧ (((y5_ : Nat) : Int) = ((6 : Nat) : Int))) 2 10 [28, 27] ((LG 5 2 es'3_).fits 6 2) rfl rfl rfl rfl rfl rfl trivial rfl (fun h5_10 => ?_) (fun g5_13 => ?_)
  ·
    refine l_on rfl (gT h5_10) ?_
    refine l_mv rfl ?_
    refine l_on rfl (gT h5_10) ?_
    refine l_call (by kernel_rfl) rfl rfl (fun w' hw => ?_)
    refine (fits_s' b1_ 5 2 lv'2_ es'3_ 6 2 w' (by show _ ≤ _; omega) (by omega) (by decide) (hw.rdRes0 1 rfl) (hw.rdVec0 2 rfl) (EntD.rd.star0 3 rfl hw)).mono ?_
    rintro _ w1 ⟨rfl, hO⟩
    refine (?_ : CL _ _ _ _ _ _ (Own w [] [Res.vec 38 5 (.slice (some ⟨b11, 0, none⟩) 1 1) [({ index := 6, term := 2, kind := 1, delta := 0, dv := .slice none 0 0, data := [] } : EntD)].length ([({ index := 6, term := 2, kind := 1, delta := 0, dv := .slice none 0 0, data := [] } : EntD)].flatMap EntD.cells), Res.row b1_ 66 [.int .u64 (5 : Nat), .int .u64 (2 : Nat), lv'2_], Res.vec 38 5 lv'2_ es'3_.length (es'3_.flatMap EntD.cells), Res.star (es'3_.map EntD.dres)])) w1 (hw.frame0 hO)
    exact l_nil (fun w' hw => ⟨(by repeat (first | exact Out.refl _ _ | refine Out.upd rfl ?_ | refine Out.msk rfl ?_)), rfl, hw⟩)
  refine l_as rfl ?_
  refine l_end ?_
  exact c_ret (ret1 (v := .bool (decide ((((e6_ = 0) ∧ (((x4_ : Nat) : Int) = ((6 : Nat) : Int))) ∧ (((y5_ : Nat) : Int) = ((6 : Nat) : Int))) ∧ ((LG 5 2 es'3_).fits 6 2)))) rfl rfl (fun w' hw => ⟨(by rw [decide_eq_true]; exact ⟨⟨⟨hans.2.2, by omega⟩, by omega⟩, by rw [hf4_3]; exact fit6⟩), hw.drop⟩))
theorem grown_s (index term : Nat) (av : Value) (acts : List ActD) (w : World) (hl : (acts.map fun a => a.list.length).sum ≤ 1048576) (hn : LenOk acts.length) (ha : ∀ a ∈ acts, a.wf) (hav : Rd w [] (Res.sl av acts.length (acts.flatMap ActD.cells))) (all_hav : ∀ p ∈ acts, ActD.rd p w []) : Rets Try.prog 13 #[.int .u64 (index : Nat), .int .u64 (term : Nat), av] w fun u_ w' => ∃ (lb : Nat) (i : Nat) (t : Nat) (lv : Value) (es : List EntD) (wb : Nat) (j : Nat) (u : Nat) (rv : Value) (ms : List EntD), u_ = .tuple #[.pointer (some ⟨lb, 0, none⟩), .pointer (some ⟨wb, 0, none⟩)] ∧ LG i t es = LogA.run ⟨index % 1000, term % 1000, []⟩ (acts.take 100) ∧ LG j u ms = LG i t es ∧ FromActs ms acts ∧ es.length ≤ 1048576 ∧ (LG i t es).good ∧ Own w [] [Res.row lb 66 [.int .u64 (i : Nat), .int .u64 (t : Nat), lv], Res.vec 38 5 lv es.length (es.flatMap EntD.cells), Res.star (es.map EntD.dres), Res.row wb 48 [.int .u64 (j : Nat), .int .u64 (u : Nat), rv], Res.vec 38 5 rv ms.length (ms.flatMap EntD.cells)] w' := by
  refine fn_enter (args := [.int .u64 (index : Nat), .int .u64 (term : Nat), av]) Try.func13 rfl Try.ntmps13 rfl (Own.start w) ?_
  refine c_reg ?_
  refine l_as rfl ?_
  refine l_as rfl ?_
  refine l_end ?_
  refine c_reg ?_
  refine l_mv rfl ?_
  refine l_rem (c := ((index % 1000 : Nat) : Int)) rfl rfl (by omega) rfl rfl ?_
  refine l_mv rfl ?_
  refine l_rem (c := ((term % 1000 : Nat) : Int)) rfl rfl (by omega) rfl rfl ?_
  refine l_call (by kernel_rfl) rfl rfl (fun w' hw => ?_)
  refine (begin_s (index % 1000) (term % 1000) w' (by first | assumption | omega | (simp <;> omega) | (constructor <;> (first | omega | (simp only [LenOk]; omega) | (simp <;> omega)))) (by first | assumption | omega | (simp <;> omega) | (constructor <;> (first | omega | (simp only [LenOk]; omega) | (simp <;> omega))))).mono ?_
  rintro _ w1 ⟨lb1_, wb2_, rfl, hO⟩
  refine (?_ : CL _ _ _ _ _ _ (Own w [] [Res.row lb1_ 66 [.int .u64 ((index % 1000) : Nat), .int .u64 ((term % 1000) : Nat), (.slice none 0 0)], Res.vec 38 5 (.slice none 0 0) ([] : List EntD).length (([] : List EntD).flatMap EntD.cells), Res.star (([] : List EntD).map EntD.dres), Res.row wb2_ 48 [.int .u64 ((index % 1000) : Nat), .int .u64 ((term % 1000) : Nat), .slice none 0 0]])) w1 (hw.frame0 hO)
  refine l_mv rfl ?_
  refine l_ext (vs := [.pointer (some ⟨lb1_, 0, none⟩), .pointer (some ⟨wb2_, 0, none⟩)]) rfl rfl rfl ?_
  refine l_ext (vs := [.pointer (some ⟨lb1_, 0, none⟩), .pointer (some ⟨wb2_, 0, none⟩)]) rfl rfl rfl ?_
  refine l_as rfl ?_
  refine l_as rfl ?_
  refine l_end ?_
  refine c_seq ?_
  refine c_reg ?_
  refine l_as rfl ?_
  refine l_end ?_
  refine c_block ?_
  refine c_loop9 (fun (k : Nat) (i : Nat) (t : Nat) (lv : Value) (es : List EntD) (j : Nat) (u : Nat) (rv : Value) (ms : List EntD) => [(2, av), (8, .pointer (some ⟨lb1_, 0, none⟩)), (9, .pointer (some ⟨wb2_, 0, none⟩)), (10, .int .i64 (k : Nat))]) (fun (k : Nat) (i : Nat) (t : Nat) (lv : Value) (es : List EntD) (j : Nat) (u : Nat) (rv : Value) (ms : List EntD) => (k ≤ acts.length ∧ k ≤ 100) ∧ LG i t es = LogA.run ⟨index % 1000, term % 1000, []⟩ (acts.take k) ∧ LG j u ms = LG i t es ∧ FromActs ms acts ∧ es.length ≤ ((acts.take k).map fun a => a.list.length).sum ∧ (LG i t es).good) (fun (k : Nat) (i : Nat) (t : Nat) (lv : Value) (es : List EntD) (j : Nat) (u : Nat) (rv : Value) (ms : List EntD) => [Res.row lb1_ 66 [.int .u64 (i : Nat), .int .u64 (t : Nat), lv], Res.vec 38 5 lv es.length (es.flatMap EntD.cells), Res.star (es.map EntD.dres), Res.row wb2_ 48 [.int .u64 (j : Nat), .int .u64 (u : Nat), rv], Res.vec 38 5 rv ms.length (ms.flatMap EntD.cells)]) (fun (k : Nat) (i : Nat) (t : Nat) (lv : Value) (es : List EntD) (j : Nat) (u : Nat) (rv : Value) (ms : List EntD) => acts.length - k) (fun w' hw => ⟨0, index % 1000, term % 1000, .slice none 0 0, [], index % 1000, term % 1000, .slice none 0 0, [], ⟨rfl, rfl, rfl, rfl, trivial⟩, ⟨⟨Nat.zero_le _, Nat.zero_le _⟩, rfl, rfl, (fun p hp => by cases hp), Nat.zero_le _, ⟨by show index % 1000 ≤ _; omega, by show term % 1000 ≤ _; omega, trivial⟩⟩, (own_nil hw 38 5)⟩) (fun k i t lv es j u rv ms g hΦ => ?_)
  have hall := hΦ.2.2.2.1.rd all_hav
  have hst := @sum_take acts k
  refine c_seq ?_
  refine c_reg ?_
  refine l_mv rfl ?_
  refine l_mv rfl ?_
  refine l_lenS (len := acts.length) (cs := (acts.flatMap ActD.cells)) (by kernel_rfl) rfl (fun w' hw' => Own.rd hav hw') rfl ?_
  refine l_lss rfl rfl rfl ?_
  refine l_mv rfl ?_
  refine l_band (q := ((k : Nat) : Int) < ((acts.length : Nat) : Int)) 2 4 [25, 24] (((k : Nat) : Int) < 100) rfl rfl rfl rfl rfl rfl trivial rfl (fun h3_4 => ?_) (fun g3_7 => ?_)
  ·
    refine l_on rfl (gT h3_4) ?_
    refine l_mv rfl ?_
    refine l_on rfl (gT h3_4) ?_
    refine l_lss rfl rfl rfl ?_
    exact l_nil (fun w' hw => ⟨(by repeat (first | exact Out.refl _ _ | refine Out.upd rfl ?_ | refine Out.msk rfl ?_)), rfl, hw⟩)
  refine l_mv rfl ?_
  refine l_band (q := (((k : Nat) : Int) < ((acts.length : Nat) : Int)) ∧ (((k : Nat) : Int) < 100)) 2 8 [29, 28] (true = true) rfl rfl rfl rfl rfl rfl trivial rfl (fun h3_8 => ?_) (fun g3_11 => ?_)
  ·
    refine l_on rfl (gT h3_8) ?_
    refine l_mv rfl ?_
    refine l_on rfl (gT h3_8) ?_
    refine l_nilnp (by kernel_rfl) rfl rfl rfl ?_
    exact l_nil (fun w' hw => ⟨(by repeat (first | exact Out.refl _ _ | refine Out.upd rfl ?_ | refine Out.msk rfl ?_)), (bool_dec _), hw⟩)
  refine l_end ?_
  refine c_dec rfl (fun c1 => ?_) (fun c1 => ?_)
  ·
    have hss := sum_step (acts := acts) (k := k) (by omega)
    refine c_skipC ?_
    refine c_seq ?_
    refine c_block ?_
    refine c_last ?_
    refine l_mv rfl ?_
    refine l_mv rfl ?_
    refine l_mv rfl ?_
    refine l_mv rfl ?_
    refine l_idxS (j := k) (sz := 5) (len := acts.length) (cs := (acts.flatMap ActD.cells)) rfl rfl (by kernel_rfl) (fun w' hw' => Own.rd hav hw') rfl (by omega) rfl ?_
    refine l_ldSN (k * 5 + 0) (cs := (acts.flatMap ActD.cells)) (ActD.cells (nth acts k)) rfl (by omega) (fun w' hw' => Own.rd hav hw') (flat_atN (sz := 5) (fun _ => rfl) (nth_some (by omega)) (o := 0) (us := (ActD.cells (nth acts k))) (fun k u h => by rw [Nat.zero_add]; exact h)) (by kernel_rfl) rfl ?_
    refine l_call (by kernel_rfl) rfl rfl (fun w' hw => ?_)
    refine (act_s lb1_ i t lv es wb2_ j u rv ms (nth acts k) w' (by omega) hΦ.2.2.2.2.2 hΦ.2.2.1 (ha _ (nth_mem (by omega))) (fun p hp => EntD.rd.at (hall p hp) hw [0, 1, 2, 3, 4] rfl) ((all_hav _ (nth_mem (by omega))).at hw [0, 1, 2, 3, 4] rfl) (hw.give [0, 1, 2, 3, 4] rfl (by decide))).mono ?_
    rintro _ w1 ⟨i'3_, t'4_, lv'5_, es'6_, j'7_, u'8_, rv'9_, ms'10_, rfl, hf5_6, hf5_6_1, hf5_6_2, hO⟩
    refine (?_ : CL _ _ _ _ _ _ (Own w [] [Res.row lb1_ 66 [.int .u64 (i'3_ : Nat), .int .u64 (t'4_ : Nat), lv'5_], Res.vec 38 5 lv'5_ es'6_.length (es'6_.flatMap EntD.cells), Res.star (es'6_.map EntD.dres), Res.row wb2_ 48 [.int .u64 (j'7_ : Nat), .int .u64 (u'8_ : Nat), rv'9_], Res.vec 38 5 rv'9_ ms'10_.length (ms'10_.flatMap EntD.cells)])) w1 (hw.frameL [0, 1, 2, 3, 4] rfl hO)
    refine l_end ?_
    refine c_last ?_
    refine l_mv rfl ?_
    refine l_add rfl rfl (wi64 (by omega)) rfl ?_
    refine l_as rfl ?_
    exact l_nil (fun w' hw => ⟨k + 1, i'3_, t'4_, lv'5_, es'6_, j'7_, u'8_, rv'9_, ms'10_, ⟨rfl, rfl, rfl, rfl, trivial⟩, ⟨⟨by omega, by omega⟩, by rw [hf5_6, hΦ.2.1, take_nth (by omega), LogA.run_snoc], hf5_6_1, hΦ.2.2.2.1.step (nth_mem (by omega)) hf5_6_2, by have h1 := LogA.act_len (LG i t es) (nth acts k); have h2 := congrArg (fun x : LogA => x.l.length) hf5_6; simp only [List.length_map] at h1 h2; omega, hf5_6 ▸ LogA.act_good hΦ.2.2.2.2.2 _⟩, hw, (by omega)⟩)
  ·
    have hc : ¬ ((k : Int) < (acts.length : Int) ∧ (k : Int) < 100) := fun h => c1 ⟨h, rfl⟩
    refine c_exitC rfl ?_
    refine c_reg ?_
    refine l_mv rfl ?_
    refine l_mv rfl ?_
    refine l_as rfl ?_
    refine l_as rfl ?_
    refine l_end ?_
    exact c_ret (ret2 (v := .pointer (some ⟨lb1_, 0, none⟩)) (v' := .pointer (some ⟨wb2_, 0, none⟩)) rfl rfl rfl (fun w' hw => ⟨lb1_, i, t, lv, es, wb2_, j, u, rv, ms, rfl, (by rw [hΦ.2.1]; congr 1; rw [List.take_eq_take_iff]; omega), hΦ.2.2.1, hΦ.2.2.2.1, (by omega), hΦ.2.2.2.2.2, hw⟩))
end Go.Proofs.Ytibbkbgodomfkaa
