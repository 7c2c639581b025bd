import Derived.Test.YthincafbmpialaaGreatLedA
import Derived.Test.YthincafbmpialaaGreatLqT
import Derived.Test.YthincafbmpialaaGreatLedRt
set_option linter.unusedSectionVars false
set_option linter.unusedSimpArgs false
set_option linter.unusedVariables false
set_option maxRecDepth 10000
namespace Go.Proofs.YthincafbmpialaaGreat
open Go Go.Sc Go.Proofs
theorem zIA {S : List Nat} (b tb cb idx : Nat) (w : World) (hin : Own w S [Res.row b 66 [.pointer (some ⟨tb, 0, none⟩), .pointer (some ⟨cb, 0, none⟩), Vn idx]] w) : Rets Tryz.prog 19 #[.pointer (some ⟨b, 0, none⟩)] w fun u_ w' => u_ = Vn idx ∧ Own w S [Res.row b 66 [.pointer (some ⟨tb, 0, none⟩), .pointer (some ⟨cb, 0, none⟩), Vn idx]] w' := by
  refine zW Tryz.func19 rfl Tryz.ntmps19 hin ?_
  refine zB (zD rfl (zA (zL (zB (zC rfl (xE (by kernel_rfl) rfl rfl rfl (zA (xQ rfl (zK (zB (zC rfl (zm rfl rfl ?_))))))))))))
  refine zP (o := 2) rfl rfl (zS 0 (v := Vn idx) rfl rfl rfl rfl (zD rfl (zA ?_)))
  exact zM (z6 (v := Vn idx) rfl rfl (fun w' hw => ⟨rfl, hw⟩))
theorem zH8 {S : List Nat} (b bm lm : Nat) (now : Int) (cnt : Nat) (w : World) (hin : Own w S [Res.row b 111 [.map (some bm), .map (some lm), Vi now, Vn cnt]] w) : Rets Tryz.prog 47 #[.pointer (some ⟨b, 0, none⟩)] w fun u_ w' => u_ = Vi now ∧ Own w S [Res.row b 111 [.map (some bm), .map (some lm), Vi now, Vn cnt]] w' := by
  refine zW Tryz.func47 rfl Tryz.ntmps47 hin ?_
  refine zB (zD rfl (zA (zL (zB (zC rfl (xE (by kernel_rfl) rfl rfl rfl (zA (xQ rfl (zK (zB (zC rfl (zm rfl rfl ?_))))))))))))
  refine zP (o := 2) rfl rfl (zS 0 (v := Vi now) rfl rfl rfl rfl (zD rfl (zA ?_)))
  exact zM (z6 (v := Vi now) rfl rfl (fun w' hw => ⟨rfl, hw⟩))
theorem zKI {S : List Nat} (b tb cb bm lm idx : Nat) (now : Int) (cnt : Nat) (w : World) (hin : Own w S [Res.row b 66 [.pointer (some ⟨tb, 0, none⟩), .pointer (some ⟨cb, 0, none⟩), Vn idx], Res.row tb 111 [.map (some bm), .map (some lm), Vi now, Vn cnt]] w) : Rets Tryz.prog 38 #[.pointer (some ⟨b, 0, none⟩)] w fun u_ w' => u_ = Vi now ∧ Own w S [Res.row b 66 [.pointer (some ⟨tb, 0, none⟩), .pointer (some ⟨cb, 0, none⟩), Vn idx], Res.row tb 111 [.map (some bm), .map (some lm), Vi now, Vn cnt]] w' := by
  refine zW Tryz.func38 rfl Tryz.ntmps38 hin ?_
  refine zB (zD rfl (zA (zL (zB (zC rfl (xE (by kernel_rfl) rfl rfl rfl (zA (xQ rfl (zK (zB (zC rfl (zm rfl rfl ?_))))))))))))
  refine zP (o := 0) rfl rfl (zS 0 (v := .pointer (some ⟨tb, 0, none⟩)) rfl rfl rfl rfl (zJ rfl rfl (fun w' hw => (zH8 tb bm lm now cnt w' (hw.give [1] rfl (by decide))).mono ?_)))
  rintro _ w1 ⟨rfl, hO⟩
  refine (?_ : CL _ _ _ _ _ _ (Own w S [Res.row b 66 [.pointer (some ⟨tb, 0, none⟩), .pointer (some ⟨cb, 0, none⟩), Vn idx], Res.row tb 111 [.map (some bm), .map (some lm), Vi now, Vn cnt]])) w1 (hw.frameL [1] rfl hO)
  refine zD rfl (zA ?_)
  exact zM (z6 (v := Vi now) rfl rfl (fun w' hw => ⟨rfl, hw⟩))
theorem zKQ {S : List Nat} (b tb cb bm lm idx : Nat) (now : Int) (cnt : Nat) (kb : List (ByteArray × Int)) (kl : List (Nat × LeaD)) (k : ByteArray) (w : World) (hin : Own w S [Res.row b 66 [.pointer (some ⟨tb, 0, none⟩), .pointer (some ⟨cb, 0, none⟩), Vn idx], Res.row tb 111 [.map (some bm), .map (some lm), Vi now, Vn cnt], Res.mp Value.string yD bm kb, Res.mp yA zZ lm kl] w) : Rets Tryz.prog 36 #[.pointer (some ⟨b, 0, none⟩), .string k] w fun u_ w' => ∃ (n : Int), u_ = .tuple #[Vi ((zu k kb).getD 0), Vi n] ∧ n = ye k kl ∧ Own w S [Res.row b 66 [.pointer (some ⟨tb, 0, none⟩), .pointer (some ⟨cb, 0, none⟩), Vn idx], Res.row tb 111 [.map (some bm), .map (some lm), Vi now, Vn cnt], Res.mp Value.string yD bm kb, Res.mp yA zZ lm kl] w' := by
  refine zW Tryz.func36 rfl Tryz.ntmps36 hin ?_
  refine zB (zD rfl (zD rfl (zA (zL (zB (zC rfl (xE (by kernel_rfl) rfl rfl rfl (zA (xQ rfl (zK (zB (zC rfl ?_))))))))))))
  refine zm rfl rfl (zP (o := 0) rfl rfl (zS 0 (v := .pointer (some ⟨tb, 0, none⟩)) rfl rfl rfl rfl (zC rfl (zJ rfl rfl (fun w' hw => (zJi tb bm lm now cnt kb kl k w' (hw.give [1, 2, 3] rfl (by decide))).mono ?_)))))
  rintro _ w1 ⟨n1_, rfl, hf3_5, hO⟩
  refine (?_ : CL _ _ _ _ _ _ (Own w S [Res.row b 66 [.pointer (some ⟨tb, 0, none⟩), .pointer (some ⟨cb, 0, none⟩), Vn idx], Res.row tb 111 [.map (some bm), .map (some lm), Vi now, Vn cnt], Res.mp Value.string yD bm kb, Res.mp yA zZ lm kl])) w1 (hw.frameL [1, 2, 3] rfl hO)
  refine zp (vs := [Vi ((zu k kb).getD 0), Vi n1_]) rfl rfl rfl (zp (vs := [Vi ((zu k kb).getD 0), Vi n1_]) rfl rfl rfl (zD rfl (zD rfl (zA ?_))))
  exact zM (xK (v := Vi ((zu k kb).getD 0)) (v' := Vi n1_) rfl rfl rfl (fun w' hw => ⟨n1_, rfl, hf3_5, hw⟩))
theorem zGv {S : List Nat} (b tb cb bm lm idx : Nat) (now : Int) (cnt : Nat) (kl : List (Nat × LeaD)) (w : World) (hl : kl.length ≤ 1000000) (hin : Own w S [Res.row b 66 [.pointer (some ⟨tb, 0, none⟩), .pointer (some ⟨cb, 0, none⟩), Vn idx], Res.row tb 111 [.map (some bm), .map (some lm), Vi now, Vn cnt], Res.mp yA zZ lm kl] w) : Rets Tryz.prog 40 #[.pointer (some ⟨b, 0, none⟩)] w fun u_ w' => ∃ (v : Value) (l : List LeaD), u_ = v ∧ l.Perm (kl.map (·.2)) ∧ l.Pairwise (fun x y => x3 x y) ∧ Own w S [Res.row b 66 [.pointer (some ⟨tb, 0, none⟩), .pointer (some ⟨cb, 0, none⟩), Vn idx], Res.row tb 111 [.map (some bm), .map (some lm), Vi now, Vn cnt], Res.mp yA zZ lm kl, Res.vec 76 5 v l.length (l.flatMap LeaD.cells)] w' := by
  refine zW Tryz.func40 rfl Tryz.ntmps40 hin ?_
  refine zB (zD rfl (zA (zL (zB (zC rfl (xE (by kernel_rfl) rfl rfl rfl (zA (xQ rfl (zK (zB (zC rfl (zm rfl rfl ?_))))))))))))
  refine zP (o := 0) rfl rfl (zS 0 (v := .pointer (some ⟨tb, 0, none⟩)) rfl rfl rfl rfl (zJ rfl rfl (fun w' hw => (zEw tb bm lm now cnt kl w' (by first | omega | (simp <;> omega)) (hw.give [1, 2] rfl (by decide))).mono ?_)))
  rintro v1_ w1 ⟨_, l2_, rfl, hf3_4, hf3_4_1, hO⟩
  refine (?_ : CL _ _ _ _ _ _ (Own w S [Res.row b 66 [.pointer (some ⟨tb, 0, none⟩), .pointer (some ⟨cb, 0, none⟩), Vn idx], Res.row tb 111 [.map (some bm), .map (some lm), Vi now, Vn cnt], Res.mp yA zZ lm kl, Res.vec 76 5 v1_ l2_.length (l2_.flatMap LeaD.cells)])) w1 (hw.frameL [1, 2] rfl hO)
  refine zD rfl (zA ?_)
  exact zM (z6 (v := v1_) rfl rfl (fun w' hw => ⟨v1_, l2_, rfl, hf3_4, hf3_4_1, hw⟩))
theorem zEm {S : List Nat} (b tb cb bm lm idx : Nat) (now : Int) (cnt : Nat) (kb : List (ByteArray × Int)) (kl : List (Nat × LeaD)) (kr : List (Nat × RepD)) (wb idx2 : Nat) (now2 : Int) (cnt2 : Nat) (bv lv rv : Value) (bs : List BudD) (ls : List LeaD) (rs : List RepD) (w : World) (hs : LSt idx now cnt kb kl kr idx2 now2 cnt2 bs ls rs) (hin : Own w S [Res.row b 66 [.pointer (some ⟨tb, 0, none⟩), .pointer (some ⟨cb, 0, none⟩), Vn idx], Res.row tb 111 [.map (some bm), .map (some lm), Vi now, Vn cnt], Res.mp Value.string yD bm kb, Res.mp yA zZ lm kl, Res.row wb 37 [Vi now2, Vn cnt2, bv, lv, rv, Vn idx2], Res.vec 93 2 bv bs.length (bs.flatMap BudD.cells), Res.vec 76 5 lv ls.length (ls.flatMap LeaD.cells), Res.vec 43 6 rv rs.length (rs.flatMap RepD.cells)] w) : Rets Tryz.prog 15 #[.pointer (some ⟨b, 0, none⟩), .pointer (some ⟨wb, 0, none⟩)] w fun u_ w' => u_ = .bool true ∧ Own w S [Res.row b 66 [.pointer (some ⟨tb, 0, none⟩), .pointer (some ⟨cb, 0, none⟩), Vn idx], Res.row tb 111 [.map (some bm), .map (some lm), Vi now, Vn cnt], Res.mp Value.string yD bm kb, Res.mp yA zZ lm kl, Res.row wb 37 [Vi now2, Vn cnt2, bv, lv, rv, Vn idx2], Res.vec 93 2 bv bs.length (bs.flatMap BudD.cells), Res.vec 76 5 lv ls.length (ls.flatMap LeaD.cells), Res.vec 43 6 rv rs.length (rs.flatMap RepD.cells)] w' := by
  have ho := hs.h.q
  have hrq := hs.r.q
  have hnow := hs.n
  have hidx := hs.i
  have hkl : kl.length ≤ 128 := by rw [hrq.llen]; exact ho.llen
  have hlsl := ho.llen
  refine zW Tryz.func15 rfl Tryz.ntmps15 hin ?_
  refine zB (zD rfl (zA (zB (yj (e := 9) (sz := 1) (vs := [.string (⟨#[107]⟩ : ByteArray), .string (⟨#[97]⟩ : ByteArray), .string (⟨#[98]⟩ : ByteArray), .string (⟨#[]⟩ : ByteArray)]) (by kernel_rfl) rfl rfl (by simp [Value.cells]) (by decide) rfl (fun b11 => zD rfl (zA (zL (zB (zD rfl (zA (zT ?_)))))))))))
  refine xG (fun (i : Nat) => [(0, .pointer (some ⟨b, 0, none⟩)), (1, .pointer (some ⟨wb, 0, none⟩)), (5, (.slice (some ⟨b11, 0, none⟩) 4 4)), (6, Vj i)]) (fun (i : Nat) => i ≤ 4) (fun (i : Nat) => [Res.row b 66 [.pointer (some ⟨tb, 0, none⟩), .pointer (some ⟨cb, 0, none⟩), Vn idx], Res.row tb 111 [.map (some bm), .map (some lm), Vi now, Vn cnt], Res.mp Value.string yD bm kb, Res.mp yA zZ lm kl, Res.row wb 37 [Vi now2, Vn cnt2, bv, lv, rv, Vn idx2], Res.vec 93 2 bv bs.length (bs.flatMap BudD.cells), Res.vec 76 5 lv ls.length (ls.flatMap LeaD.cells), Res.vec 43 6 rv rs.length (rs.flatMap RepD.cells), Res.vec 9 1 (.slice (some ⟨b11, 0, none⟩) 4 4) [(⟨#[107]⟩ : ByteArray), (⟨#[97]⟩ : ByteArray), (⟨#[98]⟩ : ByteArray), (⟨#[]⟩ : ByteArray)].length ([(⟨#[107]⟩ : ByteArray), (⟨#[97]⟩ : ByteArray), (⟨#[98]⟩ : ByteArray), (⟨#[]⟩ : ByteArray)].flatMap S1)]) (fun (i : Nat) => 5 - i) (fun w' hw => ⟨0, ⟨rfl, rfl, rfl, rfl, trivial⟩, by omega, hw⟩) (fun i g hΦ => ?_)
  have hk4 : ([(⟨#[107]⟩ : ByteArray), (⟨#[97]⟩ : ByteArray), (⟨#[98]⟩ : ByteArray), (⟨#[]⟩ : ByteArray)] : List ByteArray).length = 4 := rfl
  refine zL (zB (zC rfl (zC rfl (yC (pV 8 rfl) rfl rfl (yI rfl rfl rfl (zA (zU rfl (fun c1 => ?_) (fun c1 => ?_))))))))
  ·
   refine zK (zL (zT (zB (zC rfl (zC rfl (zC rfl (zH (pV 8 rfl) 1 i rfl rfl rfl (by omega) rfl (zV (pV 8 rfl) 1 i 0 (fun _ => rfl) rfl rfl (by omega) rfl rfl (zJ rfl rfl (fun w' hw => (zKQ b tb cb bm lm idx now cnt kb kl (zI [(⟨#[107]⟩ : ByteArray), (⟨#[97]⟩ : ByteArray), (⟨#[98]⟩ : ByteArray), (⟨#[]⟩ : ByteArray)] i) w' (hw.give [0, 1, 2, 3] rfl (by decide))).mono ?_))))))))))
   rintro _ w1 ⟨n1_, rfl, hf5_5, hO⟩
   refine (?_ : CL _ _ _ _ _ _ (Own w S [Res.row wb 37 [Vi now2, Vn cnt2, bv, lv, rv, Vn idx2], Res.vec 93 2 bv bs.length (bs.flatMap BudD.cells), Res.vec 76 5 lv ls.length (ls.flatMap LeaD.cells), Res.vec 43 6 rv rs.length (rs.flatMap RepD.cells), Res.vec 9 1 (.slice (some ⟨b11, 0, none⟩) 4 4) [(⟨#[107]⟩ : ByteArray), (⟨#[97]⟩ : ByteArray), (⟨#[98]⟩ : ByteArray), (⟨#[]⟩ : ByteArray)].length ([(⟨#[107]⟩ : ByteArray), (⟨#[97]⟩ : ByteArray), (⟨#[98]⟩ : ByteArray), (⟨#[]⟩ : ByteArray)].flatMap S1), Res.row b 66 [.pointer (some ⟨tb, 0, none⟩), .pointer (some ⟨cb, 0, none⟩), Vn idx], Res.row tb 111 [.map (some bm), .map (some lm), Vi now, Vn cnt], Res.mp Value.string yD bm kb, Res.mp yA zZ lm kl])) w1 (hw.frameL [0, 1, 2, 3] rfl hO)
   refine zC rfl (zp (vs := [Vi ((zu (zI [(⟨#[107]⟩ : ByteArray), (⟨#[97]⟩ : ByteArray), (⟨#[98]⟩ : ByteArray), (⟨#[]⟩ : ByteArray)] i) kb).getD 0), Vi n1_]) rfl rfl rfl (zp (vs := [Vi ((zu (zI [(⟨#[107]⟩ : ByteArray), (⟨#[97]⟩ : ByteArray), (⟨#[98]⟩ : ByteArray), (⟨#[]⟩ : ByteArray)] i) kb).getD 0), Vi n1_]) rfl rfl rfl (zD rfl (zD rfl (zA (zL (zg [3, 4, 5, 6, 7, 8] rfl (by decide) (by kernel_rfl) (fun w' hw hS => zF 0 rfl (zQ) hS (zF 1 rfl (z7 rfl) hS (zF 2 rfl (zi (o := 0) rfl) hS (zF 3 rfl (zQ) hS (zF 4 rfl (zQ) hS ?_))))))))))))
   refine zF 5 rfl (yR (pV 1 rfl) 1 i rfl rfl rfl (by omega)) hS (zF 6 rfl (yq (pV 1 rfl) 1 i 0 (fun _ => rfl) rfl rfl (by omega) rfl) hS (zY 7 rfl hw (zJ rfl rfl (fun w' hw => (zB1 wb (37) (rv :: Vn idx2 :: []) now2 cnt2 bv lv bs ls (zI [(⟨#[107]⟩ : ByteArray), (⟨#[97]⟩ : ByteArray), (⟨#[98]⟩ : ByteArray), (⟨#[]⟩ : ByteArray)] i) w' ‹_› (hw.give [0, 1, 2] rfl (by decide))).mono ?_))))
   rintro _ w1 ⟨rfl, hO⟩
   refine (?_ : CL _ _ _ _ _ _ (Own w S [Res.vec 43 6 rv rs.length (rs.flatMap RepD.cells), Res.vec 9 1 (.slice (some ⟨b11, 0, none⟩) 4 4) [(⟨#[107]⟩ : ByteArray), (⟨#[97]⟩ : ByteArray), (⟨#[98]⟩ : ByteArray), (⟨#[]⟩ : ByteArray)].length ([(⟨#[107]⟩ : ByteArray), (⟨#[97]⟩ : ByteArray), (⟨#[98]⟩ : ByteArray), (⟨#[]⟩ : ByteArray)].flatMap S1), Res.row b 66 [.pointer (some ⟨tb, 0, none⟩), .pointer (some ⟨cb, 0, none⟩), Vn idx], Res.row tb 111 [.map (some bm), .map (some lm), Vi now, Vn cnt], Res.mp Value.string yD bm kb, Res.mp yA zZ lm kl, Res.row wb (37) [Vi now2, Vn cnt2, bv, lv, rv, Vn idx2], Res.vec 93 2 bv bs.length (bs.flatMap BudD.cells), Res.vec 76 5 lv ls.length (ls.flatMap LeaD.cells)])) w1 (hw.frameL [0, 1, 2] rfl hO)
   refine zG [0, 1, 2, 3, 4, 5] rfl (by decide) (fun w' hw hS => zF 8 rfl (zQ) hS (zF 9 rfl (ya (vs := [Vi (yr (zI [(⟨#[107]⟩ : ByteArray), (⟨#[97]⟩ : ByteArray), (⟨#[98]⟩ : ByteArray), (⟨#[]⟩ : ByteArray)] i) bs), Vi (yh (zI [(⟨#[107]⟩ : ByteArray), (⟨#[97]⟩ : ByteArray), (⟨#[98]⟩ : ByteArray), (⟨#[]⟩ : ByteArray)] i) ls)]) rfl rfl) hS (zF 10 rfl (ya (vs := [Vi (yr (zI [(⟨#[107]⟩ : ByteArray), (⟨#[97]⟩ : ByteArray), (⟨#[98]⟩ : ByteArray), (⟨#[]⟩ : ByteArray)] i) bs), Vi (yh (zI [(⟨#[107]⟩ : ByteArray), (⟨#[97]⟩ : ByteArray), (⟨#[98]⟩ : ByteArray), (⟨#[]⟩ : ByteArray)] i) ls)]) rfl rfl) hS (zF 11 rfl (yx) hS (zF 12 rfl (yx) hS (zR ?_))))))
   refine (?_ : C _ _ _ _ _ _ _ (Own w S [Res.vec 43 6 rv rs.length (rs.flatMap RepD.cells), Res.vec 9 1 (.slice (some ⟨b11, 0, none⟩) 4 4) [(⟨#[107]⟩ : ByteArray), (⟨#[97]⟩ : ByteArray), (⟨#[98]⟩ : ByteArray), (⟨#[]⟩ : ByteArray)].length ([(⟨#[107]⟩ : ByteArray), (⟨#[97]⟩ : ByteArray), (⟨#[98]⟩ : ByteArray), (⟨#[]⟩ : ByteArray)].flatMap S1), Res.row b 66 [.pointer (some ⟨tb, 0, none⟩), .pointer (some ⟨cb, 0, none⟩), Vn idx], Res.row tb 111 [.map (some bm), .map (some lm), Vi now, Vn cnt], Res.mp Value.string yD bm kb, Res.mp yA zZ lm kl, Res.row wb (37) [Vi now2, Vn cnt2, bv, lv, rv, Vn idx2], Res.vec 93 2 bv bs.length (bs.flatMap BudD.cells), Res.vec 76 5 lv ls.length (ls.flatMap LeaD.cells)])) _ hw
   refine zB (zC rfl (zC rfl (xn rfl rfl rfl (zC rfl (yY (q := ((zu (zI [(⟨#[107]⟩ : ByteArray), (⟨#[97]⟩ : ByteArray), (⟨#[98]⟩ : ByteArray), (⟨#[]⟩ : ByteArray)] i) kb).getD 0) ≠ (yr (zI [(⟨#[107]⟩ : ByteArray), (⟨#[97]⟩ : ByteArray), (⟨#[98]⟩ : ByteArray), (⟨#[]⟩ : ByteArray)] i) bs)) 3 3 [44, 43, 42] (n1_ ≠ (yh (zI [(⟨#[107]⟩ : ByteArray), (⟨#[97]⟩ : ByteArray), (⟨#[98]⟩ : ByteArray), (⟨#[]⟩ : ByteArray)] i) ls)) rfl rfl rfl rfl rfl rfl trivial rfl (fun h7_3 => ?_) (fun g7_7 => ?_))))))
   ·
    refine zO rfl (gF h7_3) (zC rfl (zO rfl (gF h7_3) (zC rfl (zO rfl (gF h7_3) (xn rfl rfl rfl ?_)))))
    exact yL rfl (fun _ hw => hw)
   refine zA (zDt rfl (fun q => q.elim (fun q => q (ho.bud hrq _)) (fun q => q (hf5_5.trans (hrq.lent _)))) (zK (zd (zC rfl (zt rfl rfl (zr (by omega)) rfl (zD rfl ?_))))))
   exact zj (fun w' hw => ⟨i + 1, ⟨rfl, rfl, rfl, rfl, trivial⟩, (by omega), hw.sel [2, 3, 4, 5, 6, 7, 8, 0, 1] rfl (by decide), (by omega)⟩)
  ·
   refine yG rfl (zL (zg [2, 4, 5, 6, 7, 8] rfl (by decide) (by kernel_rfl) (fun w' hw hS => zF 0 rfl (zQ) hS (zF 2 rfl (zQ) hS (zF 3 rfl (z7 rfl) hS (zF 4 rfl (zi (o := 5) rfl) hS (zF 5 rfl (zo 1 (v := Vn idx2) rfl rfl rfl) hS (zY 1 rfl hw (zJ rfl rfl (fun w' hw => (zIA b tb cb idx w' (hw.give [0] rfl (by decide))).mono ?_))))))))))
   rintro _ w1 ⟨rfl, hO⟩
   refine (?_ : CL _ _ _ _ _ _ (Own w S [Res.row tb 111 [.map (some bm), .map (some lm), Vi now, Vn cnt], Res.mp Value.string yD bm kb, Res.mp yA zZ lm kl, Res.row wb 37 [Vi now2, Vn cnt2, bv, lv, rv, Vn idx2], Res.vec 93 2 bv bs.length (bs.flatMap BudD.cells), Res.vec 76 5 lv ls.length (ls.flatMap LeaD.cells), Res.vec 43 6 rv rs.length (rs.flatMap RepD.cells), Res.vec 9 1 (.slice (some ⟨b11, 0, none⟩) 4 4) [(⟨#[107]⟩ : ByteArray), (⟨#[97]⟩ : ByteArray), (⟨#[98]⟩ : ByteArray), (⟨#[]⟩ : ByteArray)].length ([(⟨#[107]⟩ : ByteArray), (⟨#[97]⟩ : ByteArray), (⟨#[98]⟩ : ByteArray), (⟨#[]⟩ : ByteArray)].flatMap S1), Res.row b 66 [.pointer (some ⟨tb, 0, none⟩), .pointer (some ⟨cb, 0, none⟩), Vn idx]])) w1 (hw.frameL [0] rfl hO)
   refine zG [1, 3, 4, 5, 6, 7] rfl (by decide) (fun w' hw hS => zF 6 rfl (zIp rfl rfl) hS (zF 7 rfl (zQ) hS ?_))
   by_cases g9_7 : ((idx : Nat) : Int) = ((idx2 : Nat) : Int)
   ·
    refine zl 8 rfl rfl (gT g9_7) (zQ) hS (zl 10 rfl rfl (gT g9_7) (zQ) hS (zl 11 rfl rfl (gT g9_7) (z7 rfl) hS (zl 12 rfl rfl (gT g9_7) (zi (o := 0) rfl) hS (zl 13 rfl rfl (gT g9_7) (zi (o := 0) rfl) hS (zl 14 rfl rfl (gT g9_7) (zo 1 (v := Vi now2) rfl rfl rfl) hS (zY 9 rfl hw (zO rfl (gT g9_7) (zJ rfl rfl (fun w' hw => (zKI b tb cb bm lm idx now cnt w' (hw.give [8, 0] rfl (by decide))).mono ?_)))))))))
    rintro _ w1 ⟨rfl, hO⟩
    refine (?_ : CL _ _ _ _ _ _ (Own w S [Res.mp Value.string yD bm kb, Res.mp yA zZ lm kl, Res.row wb 37 [Vi now2, Vn cnt2, bv, lv, rv, Vn idx2], Res.vec 93 2 bv bs.length (bs.flatMap BudD.cells), Res.vec 76 5 lv ls.length (ls.flatMap LeaD.cells), Res.vec 43 6 rv rs.length (rs.flatMap RepD.cells), Res.vec 9 1 (.slice (some ⟨b11, 0, none⟩) 4 4) [(⟨#[107]⟩ : ByteArray), (⟨#[97]⟩ : ByteArray), (⟨#[98]⟩ : ByteArray), (⟨#[]⟩ : ByteArray)].length ([(⟨#[107]⟩ : ByteArray), (⟨#[97]⟩ : ByteArray), (⟨#[98]⟩ : ByteArray), (⟨#[]⟩ : ByteArray)].flatMap S1), Res.row b 66 [.pointer (some ⟨tb, 0, none⟩), .pointer (some ⟨cb, 0, none⟩), Vn idx], Res.row tb 111 [.map (some bm), .map (some lm), Vi now, Vn cnt]])) w1 (hw.frameL [8, 0] rfl hO)
    refine zG [0, 2, 3, 4, 5, 6] rfl (by decide) (fun w' hw hS => zl 15 rfl rfl (gT g9_7) (zIp rfl rfl) hS (zF 16 rfl (y5 (gT g9_7)) hS (zF 17 rfl (zQ) hS ?_)))
    by_cases g9_17 : now = now2
    ·
     refine zl 18 rfl rfl (gT g9_17) (zQ) hS (zl 20 rfl rfl (gT g9_17) (zQ) hS (zl 21 rfl rfl (gT g9_17) (z7 rfl) hS (zl 22 rfl rfl (gT g9_17) (zi (o := 0) rfl) hS (zl 23 rfl rfl (gT g9_17) (zi (o := 3) rfl) hS (zl 24 rfl rfl (gT g9_17) (zo 1 (v := lv) rfl rfl rfl) hS (zY 19 rfl hw (zO rfl (gT g9_17) (zJ rfl rfl (fun w' hw => (zGv b tb cb bm lm idx now cnt kl w' (by first | omega | (simp <;> omega)) (hw.give [7, 8, 1] rfl (by decide))).mono ?_)))))))))
     rintro v2_ w1 ⟨_, l3_, rfl, hf9_19, hf9_19_1, hO⟩
     have hl3 : l3_.length ≤ 128 := by rw [hf9_19.length_eq, List.length_map]; exact hkl
     refine (?_ : CL _ _ _ _ _ _ (Own w S [Res.mp Value.string yD bm kb, Res.row wb 37 [Vi now2, Vn cnt2, bv, lv, rv, Vn idx2], Res.vec 93 2 bv bs.length (bs.flatMap BudD.cells), Res.vec 76 5 lv ls.length (ls.flatMap LeaD.cells), Res.vec 43 6 rv rs.length (rs.flatMap RepD.cells), Res.vec 9 1 (.slice (some ⟨b11, 0, none⟩) 4 4) [(⟨#[107]⟩ : ByteArray), (⟨#[97]⟩ : ByteArray), (⟨#[98]⟩ : ByteArray), (⟨#[]⟩ : ByteArray)].length ([(⟨#[107]⟩ : ByteArray), (⟨#[97]⟩ : ByteArray), (⟨#[98]⟩ : ByteArray), (⟨#[]⟩ : ByteArray)].flatMap S1), Res.row b 66 [.pointer (some ⟨tb, 0, none⟩), .pointer (some ⟨cb, 0, none⟩), Vn idx], Res.row tb 111 [.map (some bm), .map (some lm), Vi now, Vn cnt], Res.mp yA zZ lm kl, Res.vec 76 5 v2_ l3_.length (l3_.flatMap LeaD.cells)])) w1 (hw.frameL [7, 8, 1] rfl hO)
     refine zG [0, 1, 2, 3, 4, 5] rfl (by decide) (fun w' hw hS => zY 25 rfl hw (zO rfl (gT g9_17) (zJ rfl rfl (fun w' hw => (zEI v2_ l3_ lv ls w' (by first | omega | (simp <;> omega)) (by first | omega | (simp <;> omega)) (hw.rdVec0 9 rfl) (hw.rdVec0 3 rfl)).mono ?_))))
     rintro _ w1 ⟨rfl, hO⟩
     refine (?_ : CL _ _ _ _ _ _ (Own w S [Res.mp Value.string yD bm kb, Res.row wb 37 [Vi now2, Vn cnt2, bv, lv, rv, Vn idx2], Res.vec 93 2 bv bs.length (bs.flatMap BudD.cells), Res.vec 76 5 lv ls.length (ls.flatMap LeaD.cells), Res.vec 43 6 rv rs.length (rs.flatMap RepD.cells), Res.vec 9 1 (.slice (some ⟨b11, 0, none⟩) 4 4) [(⟨#[107]⟩ : ByteArray), (⟨#[97]⟩ : ByteArray), (⟨#[98]⟩ : ByteArray), (⟨#[]⟩ : ByteArray)].length ([(⟨#[107]⟩ : ByteArray), (⟨#[97]⟩ : ByteArray), (⟨#[98]⟩ : ByteArray), (⟨#[]⟩ : ByteArray)].flatMap S1), Res.row b 66 [.pointer (some ⟨tb, 0, none⟩), .pointer (some ⟨cb, 0, none⟩), Vn idx], Res.row tb 111 [.map (some bm), .map (some lm), Vi now, Vn cnt], Res.mp yA zZ lm kl, Res.vec 76 5 v2_ l3_.length (l3_.flatMap LeaD.cells)])) w1 (hw.frame0 hO)
     refine zG [0, 1, 2, 3, 4, 5] rfl (by decide) (fun w' hw hS => zF 26 rfl (y5 (gT g9_17)) hS (zF 27 rfl (yx) hS (zR ?_)))
     refine (?_ : C _ _ _ _ _ _ _ (Own w S [Res.mp Value.string yD bm kb, Res.row wb 37 [Vi now2, Vn cnt2, bv, lv, rv, Vn idx2], Res.vec 93 2 bv bs.length (bs.flatMap BudD.cells), Res.vec 76 5 lv ls.length (ls.flatMap LeaD.cells), Res.vec 43 6 rv rs.length (rs.flatMap RepD.cells), Res.vec 9 1 (.slice (some ⟨b11, 0, none⟩) 4 4) [(⟨#[107]⟩ : ByteArray), (⟨#[97]⟩ : ByteArray), (⟨#[98]⟩ : ByteArray), (⟨#[]⟩ : ByteArray)].length ([(⟨#[107]⟩ : ByteArray), (⟨#[97]⟩ : ByteArray), (⟨#[98]⟩ : ByteArray), (⟨#[]⟩ : ByteArray)].flatMap S1), Res.row b 66 [.pointer (some ⟨tb, 0, none⟩), .pointer (some ⟨cb, 0, none⟩), Vn idx], Res.row tb 111 [.map (some bm), .map (some lm), Vi now, Vn cnt], Res.mp yA zZ lm kl, Res.vec 76 5 v2_ l3_.length (l3_.flatMap LeaD.cells)])) _ hw
     exact zM (z6 (v := .bool (decide (l3_ = ls))) rfl rfl (fun w' hw => ⟨(by congr 1; exact decide_eq_true (zGV ho hrq hf9_19 hf9_19_1)), hw.sel [6, 7, 0, 8, 1, 2, 3, 4] rfl (by decide)⟩))
    ·
     refine zc 18 rfl rfl (gF g9_17) rfl hS (zc 19 rfl rfl (gF g9_17) rfl hS (zc 20 rfl rfl (gF g9_17) rfl hS (zc 21 rfl rfl (gF g9_17) rfl hS (zc 22 rfl rfl (gF g9_17) rfl hS (zc 23 rfl rfl (gF g9_17) rfl hS (zc 24 rfl rfl (gF g9_17) rfl hS (zc 25 rfl rfl (gF g9_17) rfl hS (zF 26 rfl (yz (gF g9_17)) hS (zF 27 rfl (yx) hS (zR ?_))))))))))
     refine (?_ : C _ _ _ _ _ _ _ (Own w S [Res.mp Value.string yD bm kb, Res.mp yA zZ lm kl, Res.row wb 37 [Vi now2, Vn cnt2, bv, lv, rv, Vn idx2], Res.vec 93 2 bv bs.length (bs.flatMap BudD.cells), Res.vec 76 5 lv ls.length (ls.flatMap LeaD.cells), Res.vec 43 6 rv rs.length (rs.flatMap RepD.cells), Res.vec 9 1 (.slice (some ⟨b11, 0, none⟩) 4 4) [(⟨#[107]⟩ : ByteArray), (⟨#[97]⟩ : ByteArray), (⟨#[98]⟩ : ByteArray), (⟨#[]⟩ : ByteArray)].length ([(⟨#[107]⟩ : ByteArray), (⟨#[97]⟩ : ByteArray), (⟨#[98]⟩ : ByteArray), (⟨#[]⟩ : ByteArray)].flatMap S1), Res.row b 66 [.pointer (some ⟨tb, 0, none⟩), .pointer (some ⟨cb, 0, none⟩), Vn idx], Res.row tb 111 [.map (some bm), .map (some lm), Vi now, Vn cnt]])) _ hw
     exact zM (z6 (v := .bool false) rfl rfl (fun w' hw => ⟨(by exfalso; exact g9_17 hnow), hw.sel [7, 8, 0, 1, 2, 3, 4, 5] rfl (by decide)⟩))
   ·
    refine zc 8 rfl rfl (gF g9_7) rfl hS (zc 9 rfl rfl (gF g9_7) rfl hS (zc 10 rfl rfl (gF g9_7) rfl hS (zc 11 rfl rfl (gF g9_7) rfl hS (zc 12 rfl rfl (gF g9_7) rfl hS (zc 13 rfl rfl (gF g9_7) rfl hS (zc 14 rfl rfl (gF g9_7) rfl hS (zc 15 rfl rfl (gF g9_7) rfl hS (zF 16 rfl (yz (gF g9_7)) hS (zF 17 rfl (zQ) hS (zc 18 rfl rfl rfl rfl hS (zc 19 rfl rfl rfl rfl hS (zc 20 rfl rfl rfl rfl hS ?_))))))))))))
    refine zc 21 rfl rfl rfl rfl hS (zc 22 rfl rfl rfl rfl hS (zc 23 rfl rfl rfl rfl hS (zc 24 rfl rfl rfl rfl hS (zc 25 rfl rfl rfl rfl hS (zF 26 rfl (yz rfl) hS (zF 27 rfl (yx) hS (zR ?_)))))))
    refine (?_ : C _ _ _ _ _ _ _ (Own w S [Res.row tb 111 [.map (some bm), .map (some lm), Vi now, Vn cnt], Res.mp Value.string yD bm kb, Res.mp yA zZ lm kl, Res.row wb 37 [Vi now2, Vn cnt2, bv, lv, rv, Vn idx2], Res.vec 93 2 bv bs.length (bs.flatMap BudD.cells), Res.vec 76 5 lv ls.length (ls.flatMap LeaD.cells), Res.vec 43 6 rv rs.length (rs.flatMap RepD.cells), Res.vec 9 1 (.slice (some ⟨b11, 0, none⟩) 4 4) [(⟨#[107]⟩ : ByteArray), (⟨#[97]⟩ : ByteArray), (⟨#[98]⟩ : ByteArray), (⟨#[]⟩ : ByteArray)].length ([(⟨#[107]⟩ : ByteArray), (⟨#[97]⟩ : ByteArray), (⟨#[98]⟩ : ByteArray), (⟨#[]⟩ : ByteArray)].flatMap S1), Res.row b 66 [.pointer (some ⟨tb, 0, none⟩), .pointer (some ⟨cb, 0, none⟩), Vn idx]])) _ hw
    exact zM (z6 (v := .bool false) rfl rfl (fun w' hw => ⟨(by exfalso; exact g9_7 (by rw [hidx])), hw.sel [8, 0, 1, 2, 3, 4, 5, 6] rfl (by decide)⟩))
structure EntOk (x : EntD) : Prop where
  wf : x.wf
  delta : xY x.delta
theorem LSt.app {idx : Nat} {now : Int} {cnt : Nat} {kb : List (ByteArray × Int)} {kl : List (Nat × LeaD)} {kr : List (Nat × RepD)} {idx2 : Nat} {now2 : Int} {cnt2 : Nat} {bs : List BudD} {ls : List LeaD} {rs : List RepD} {x y : EntA} {r s : RepD} {has had : Bool} {e f : Int} {idx' : Nat} {now' : Int} {cnt' : Nat} {kb' : List (ByteArray × Int)} {kl' : List (Nat × LeaD)} {kr' : List (Nat × RepD)} {idx3 : Nat} {now3 : Int} {cnt3 : Nat} {bs' : List BudD} {ls' : List LeaD} {rs' : List RepD}
    (h : LSt idx now cnt kb kl kr idx2 now2 cnt2 bs ls rs) (hxy : x = y) (hd : xY x.delta) (hn : cnt2 < 1000000000) (h1 : zLf idx now cnt kb kl kr x r has e idx' now' cnt' kb' kl' kr') (h2 : zMA idx2 now2 cnt2 bs ls rs y s had f idx3 now3 cnt3 bs' ls' rs') :
    (r = s ∧ has = had ∧ e = f) ∧ LSt idx' now' cnt' kb' kl' kr' idx3 now3 cnt3 bs' ls' rs' ∧ cnt3 ≤ cnt2 + 1 ∧ idx3 ≤ idx2 + 1 := by
  obtain ⟨rfl, rfl, rfl, ho, hr⟩ := h
  subst hxy
  have hi : idx3 ≤ idx + 1 := by
    rcases h2 with h2 | h2
    · have := h2.2.2.2.1; omega
    · have := h2.1.2; have := h2.2.2.1; omega
  obtain ⟨q1, q2, q3, q4, q5, q6, q7, q8, q9⟩ := zKd ho hr hd hn h1 h2
  exact ⟨⟨q1, q2, q3⟩, ⟨q4, q5, q6, q8, q7⟩, q9, hi⟩
theorem zNg {es : List EntD} (h : es.length = 1) : es = [zI es 0] := by
  obtain ⟨x, rfl⟩ := List.length_eq_one_iff.1 h
  rfl
theorem zLF {l es : List EntD} {i : Nat} (hi : i < l.length) (h : es.map EntD.toEntA = ((l.take (i + 1)).drop i).map EntD.toEntA) : es.length = 1 ∧ (zI es 0).toEntA = (zI l i).toEntA := by
  have e : (l.take (i + 1)).drop i = [zI l i] := by
    rw [yB hi, List.drop_append_of_le_length (by rw [List.length_take]; omega), List.drop_of_length_le (by rw [List.length_take]; omega)]; rfl
  rw [e] at h
  obtain ⟨x, rfl, hx⟩ := List.map_eq_singleton_iff.1 (h.trans rfl)
  exact ⟨rfl, hx⟩
theorem zKC {S : List Nat} (v : Value) (l : List EntD) (b tb cb bm lm rm idx : Nat) (now : Int) (cnt : Nat) (kb : List (ByteArray × Int)) (kl : List (Nat × LeaD)) (kr : List (Nat × RepD)) (wb idx2 : Nat) (now2 : Int) (cnt2 : Nat) (bv lv rv : Value) (bs : List BudD) (ls : List LeaD) (rs : List RepD) (w : World) (hs : LSt idx now cnt kb kl kr idx2 now2 cnt2 bs ls rs) (hel : ∀ x ∈ l, EntOk x) (hn : cnt2 + l.length ≤ 999999) (hi : idx2 + l.length ≤ 1000000) (hin : Own w S [Res.row b 66 [.pointer (some ⟨tb, 0, none⟩), .pointer (some ⟨cb, 0, none⟩), Vn idx], Res.row tb 111 [.map (some bm), .map (some lm), Vi now, Vn cnt], Res.mp Value.string yD bm kb, Res.mp yA zZ lm kl, Res.row cb 114 [.map (some rm)], Res.mp yU zq rm kr, Res.row wb 37 [Vi now2, Vn cnt2, bv, lv, rv, Vn idx2], Res.vec 93 2 bv bs.length (bs.flatMap BudD.cells), Res.vec 76 5 lv ls.length (ls.flatMap LeaD.cells), Res.vec 43 6 rv rs.length (rs.flatMap RepD.cells)] w) (hv : Rd w S (Res.sl v l.length (l.flatMap EntD.cells))) (all_hv : ∀ p ∈ l, EntD.rd p w S) : Rets Tryz.prog 11 #[.pointer (some ⟨b, 0, none⟩), .pointer (some ⟨wb, 0, none⟩), v] w fun u_ w' => ∃ (idx' : Nat) (now' : Int) (cnt' : Nat) (kb' : List (ByteArray × Int)) (kl' : List (Nat × LeaD)) (kr' : List (Nat × RepD)) (idx3 : Nat) (now3 : Int) (cnt3 : Nat) (bv' lv' rv' : Value) (bs' : List BudD) (ls' : List LeaD) (rs' : List RepD), u_ = .bool true ∧ LSt idx' now' cnt' kb' kl' kr' idx3 now3 cnt3 bs' ls' rs' ∧ cnt3 ≤ cnt2 + l.length ∧ idx3 ≤ idx2 + l.length ∧ Own w S [Res.row b 66 [.pointer (some ⟨tb, 0, none⟩), .pointer (some ⟨cb, 0, none⟩), Vn idx'], Res.row tb 111 [.map (some bm), .map (some lm), Vi now', Vn cnt'], Res.mp Value.string yD bm kb', Res.mp yA zZ lm kl', Res.row cb 114 [.map (some rm)], Res.mp yU zq rm kr', Res.row wb 37 [Vi now3, Vn cnt3, bv', lv', rv', Vn idx3], Res.vec 93 2 bv' bs'.length (bs'.flatMap BudD.cells), Res.vec 76 5 lv' ls'.length (ls'.flatMap LeaD.cells), Res.vec 43 6 rv' rs'.length (rs'.flatMap RepD.cells)] w' := by
  refine zW Tryz.func11 rfl Tryz.ntmps11 hin ?_
  refine zB (zD rfl (zA (zL (zB (zD rfl (zA (zT ?_)))))))
  refine zIW (fun (i : Nat) (idx' : Nat) (now' : Int) (cnt' : Nat) (kb' : List (ByteArray × Int)) (kl' : List (Nat × LeaD)) (kr' : List (Nat × RepD)) (idx3 : Nat) (now3 : Int) (cnt3 : Nat) (bv' lv' rv' : Value) (bs' : List BudD) (ls' : List LeaD) (rs' : List RepD) => [(0, .pointer (some ⟨b, 0, none⟩)), (1, .pointer (some ⟨wb, 0, none⟩)), (2, v), (7, Vj i)]) (fun (i : Nat) (idx' : Nat) (now' : Int) (cnt' : Nat) (kb' : List (ByteArray × Int)) (kl' : List (Nat × LeaD)) (kr' : List (Nat × RepD)) (idx3 : Nat) (now3 : Int) (cnt3 : Nat) (bv' lv' rv' : Value) (bs' : List BudD) (ls' : List LeaD) (rs' : List RepD) => (i ≤ l.length ∧ cnt3 ≤ cnt2 + i ∧ idx3 ≤ idx2 + i) ∧ LSt idx' now' cnt' kb' kl' kr' idx3 now3 cnt3 bs' ls' rs') (fun (i : Nat) (idx' : Nat) (now' : Int) (cnt' : Nat) (kb' : List (ByteArray × Int)) (kl' : List (Nat × LeaD)) (kr' : List (Nat × RepD)) (idx3 : Nat) (now3 : Int) (cnt3 : Nat) (bv' lv' rv' : Value) (bs' : List BudD) (ls' : List LeaD) (rs' : List RepD) => [Res.row b 66 [.pointer (some ⟨tb, 0, none⟩), .pointer (some ⟨cb, 0, none⟩), Vn idx'], Res.row tb 111 [.map (some bm), .map (some lm), Vi now', Vn cnt'], Res.mp Value.string yD bm kb', Res.mp yA zZ lm kl', Res.row cb 114 [.map (some rm)], Res.mp yU zq rm kr', Res.row wb 37 [Vi now3, Vn cnt3, bv', lv', rv', Vn idx3], Res.vec 93 2 bv' bs'.length (bs'.flatMap BudD.cells), Res.vec 76 5 lv' ls'.length (ls'.flatMap LeaD.cells), Res.vec 43 6 rv' rs'.length (rs'.flatMap RepD.cells)]) (fun (i : Nat) (idx' : Nat) (now' : Int) (cnt' : Nat) (kb' : List (ByteArray × Int)) (kl' : List (Nat × LeaD)) (kr' : List (Nat × RepD)) (idx3 : Nat) (now3 : Int) (cnt3 : Nat) (bv' lv' rv' : Value) (bs' : List BudD) (ls' : List LeaD) (rs' : List RepD) => l.length - i) (fun w' hw => ⟨0, idx, now, cnt, kb, kl, kr, idx2, now2, cnt2, bv, lv, rv, bs, ls, rs, ⟨rfl, rfl, rfl, rfl, trivial⟩, ⟨by omega, hs⟩, hw⟩) (fun i idx' now' cnt' kb' kl' kr' idx3 now3 cnt3 bv' lv' rv' bs' ls' rs' g hΦ => ?_)
  have hi1 := hΦ.1
  have hs2 := hΦ.2
  have hdw : ∀ x ∈ (l.take (i + 1)).drop i, x.data.length ≤ 1000000000 := fun x hx => (hel x (List.mem_of_mem_take (List.mem_of_mem_drop hx))).wf.data
  refine zL (zB (zC rfl (zC rfl (yC (pR hv) rfl rfl (yI rfl rfl rfl (zA (zU rfl (fun c1 => ?_) (fun c1 => ?_))))))))
  ·
   have hil : i < l.length := by omega
   have hei := hel _ (yM hil)
   refine zK (zL (zT (zB (zC rfl (zC rfl (zC rfl (zt rfl rfl (zr (by omega)) rfl (zAG (pR hv) 5 i (i + 1) (by kernel_rfl) rfl ⟨_, rfl⟩ ⟨_, rfl⟩ (by omega) (by omega) rfl ?_))))))))
   have hs1_ := Rd.subL_f (g := EntD.cells) (xs := l) (sz := 5) (fun _ => rfl) hv (l := i) (h := i + 1) (by omega) (by omega)
   refine zJ rfl rfl (fun w' hw => (zDL (ju v i (i + 1) 5) ((l.take (i + 1)).drop i) w' (by rw [List.length_drop, List.length_take]; omega) hdw (hw.rd0 hs1_) (zEz (zFM (fun p hp => EntD.rd.at0 (all_hv p hp) hw)))).mono ?_)
   rintro r2_ w1 ⟨_, es3_, rfl, hf4_5, hO⟩
   have ho1 := zLF hil hf4_5
   have hj0 := ho1.1
   have hxw : (zI es3_ 0).wf := by have := ho1.2; exact ⟨by rw [this]; exact hei.wf.index, by rw [this]; exact hei.wf.term, by rw [this]; exact hei.wf.data⟩
   have hxd : xY (zI es3_ 0).delta := by rw [ho1.2]; exact hei.delta
   refine (?_ : CL _ _ _ _ _ _ (Own w S [Res.row b 66 [.pointer (some ⟨tb, 0, none⟩), .pointer (some ⟨cb, 0, none⟩), Vn idx'], Res.row tb 111 [.map (some bm), .map (some lm), Vi now', Vn cnt'], Res.mp Value.string yD bm kb', Res.mp yA zZ lm kl', Res.row cb 114 [.map (some rm)], Res.mp yU zq rm kr', Res.row wb 37 [Vi now3, Vn cnt3, bv', lv', rv', Vn idx3], Res.vec 93 2 bv' bs'.length (bs'.flatMap BudD.cells), Res.vec 76 5 lv' ls'.length (ls'.flatMap LeaD.cells), Res.vec 43 6 rv' rs'.length (rs'.flatMap RepD.cells), Res.vec 57 5 r2_ es3_.length (es3_.flatMap EntD.cells), Res.star (es3_.map EntD.dres)])) w1 (hw.frame0 hO)
   refine zH (pV 10 rfl) 5 0 rfl rfl rfl (by omega) rfl (xh (pV 10 rfl) 5 0 (off := yn r2_ + 0 * 5) (fun _ => rfl) rfl (by omega) (by omega) rfl (yF (v := .agg #[Vn 0, Vn 0, Vi 0, Vi 0, .slice none 0 0]) (by kernel_rfl) rfl (fun b8 => ?_)))
   refine yS (fun w' hw => Sl.cell1 (Rd.φ (EntD.rd.star0 11 rfl hw _ (yM (l := es3_) (j := 0) (by omega))).dv)) (fun hc1_ => ?_)
   refine zh 12 rfl rfl rfl (zn rfl (zn rfl (zn rfl (zn rfl (zn hc1_ yt))))) rfl (zA (zB (zC rfl (yN (cs := (EntD.cells (zI es3_ 0))) 12 rfl rfl rfl (zJ rfl rfl (fun w' hw => (zHl b tb cb bm lm rm idx' now' cnt' kb' kl' kr' (zI es3_ 0) w' hxw hxd hs2.ht (by rw [hs2.c]; omega) (by rw [hs2.i]; omega) hs2.nd hs2.len (hs2.lent hxd) (hs2.klw hxd (by omega)) (hs2.pt hxd) (hw.give [0, 1, 2, 3, 4, 5] rfl (by decide)) (EntD.rd.star 11 rfl [0, 1, 2, 3, 4, 5] rfl rfl hw _ (yM (by omega)))).mono ?_))))))
   rintro _ w1 ⟨r4_, has5_, er6_, idx'7_, now'8_, cnt'9_, kb'10_, kl'11_, kr'12_, rfl, hf5_2, hO⟩
   refine (?_ : CL _ _ _ _ _ _ (Own w S [Res.row wb 37 [Vi now3, Vn cnt3, bv', lv', rv', Vn idx3], Res.vec 93 2 bv' bs'.length (bs'.flatMap BudD.cells), Res.vec 76 5 lv' ls'.length (ls'.flatMap LeaD.cells), Res.vec 43 6 rv' rs'.length (rs'.flatMap RepD.cells), Res.vec 57 5 r2_ es3_.length (es3_.flatMap EntD.cells), Res.star (es3_.map EntD.dres), Res.row b8 57 (EntD.cells (zI es3_ 0)), Res.row b 66 [.pointer (some ⟨tb, 0, none⟩), .pointer (some ⟨cb, 0, none⟩), Vn idx'7_], Res.row tb 111 [.map (some bm), .map (some lm), Vi now'8_, Vn cnt'9_], Res.mp Value.string yD bm kb'10_, Res.mp yA zZ lm kl'11_, Res.row cb 114 [.map (some rm)], Res.mp yU zq rm kr'12_])) w1 (hw.frameL [0, 1, 2, 3, 4, 5] rfl hO)
   refine zC rfl (zp (vs := [.agg (RepD.cells r4_).toArray, .bool has5_, Vi er6_]) rfl rfl rfl (zp (vs := [.agg (RepD.cells r4_).toArray, .bool has5_, Vi er6_]) rfl rfl rfl (zp (vs := [.agg (RepD.cells r4_).toArray, .bool has5_, Vi er6_]) rfl rfl rfl (yF (v := .agg #[Vn 0, Vn 0, Vi 0, Vn 0, Vi 0, Vi 0]) (by kernel_rfl) rfl (fun b9 => zh 13 rfl rfl rfl (z8 rfl) rfl (zD rfl (zD rfl (zA (zB (zC rfl (zC rfl (zC rfl ?_))))))))))))
   refine zH (pR hv) 5 i rfl rfl rfl (by omega) rfl (xh (pR hv) 5 i (off := yn v + i * 5) (fun _ => rfl) rfl rfl (by omega) rfl (zJ rfl rfl (fun w' hw => (zIk wb (37) ([]) now3 cnt3 bv' lv' rv' bs' ls' rs' idx3 (zI l i) w' hs2.h hei.wf hei.delta (by omega) (hw.give [0, 1, 2, 3] rfl (by decide)) ((all_hv _ (yM (by omega))).at hw [0, 1, 2, 3] rfl)).mono ?_)))
   rintro _ w1 ⟨r13_, has14_, er15_, now'16_, cnt'17_, bv'18_, lv'19_, rv'20_, bs'21_, ls'22_, rs'23_, idx'24_, rfl, hf6_5, hO⟩
   have hap := hs2.app ho1.2 hxd (by omega) hf5_2 hf6_5
   refine (?_ : CL _ _ _ _ _ _ (Own w S [Res.vec 57 5 r2_ es3_.length (es3_.flatMap EntD.cells), Res.star (es3_.map EntD.dres), Res.row b8 57 (EntD.cells (zI es3_ 0)), Res.row b 66 [.pointer (some ⟨tb, 0, none⟩), .pointer (some ⟨cb, 0, none⟩), Vn idx'7_], Res.row tb 111 [.map (some bm), .map (some lm), Vi now'8_, Vn cnt'9_], Res.mp Value.string yD bm kb'10_, Res.mp yA zZ lm kl'11_, Res.row cb 114 [.map (some rm)], Res.mp yU zq rm kr'12_, Res.row b9 43 (RepD.cells r4_), Res.row wb (37) [Vi now'16_, Vn cnt'17_, bv'18_, lv'19_, rv'20_, Vn idx'24_], Res.vec 93 2 bv'18_ bs'21_.length (bs'21_.flatMap BudD.cells), Res.vec 76 5 lv'19_ ls'22_.length (ls'22_.flatMap LeaD.cells), Res.vec 43 6 rv'20_ rs'23_.length (rs'23_.flatMap RepD.cells)])) w1 (hw.frameL [0, 1, 2, 3] rfl hO)
   refine zC rfl (zp (vs := [.agg (RepD.cells r13_).toArray, .bool has14_, Vi er15_]) rfl rfl rfl (zp (vs := [.agg (RepD.cells r13_).toArray, .bool has14_, Vi er15_]) rfl rfl rfl (zp (vs := [.agg (RepD.cells r13_).toArray, .bool has14_, Vi er15_]) rfl rfl rfl (yF (v := .agg #[Vn 0, Vn 0, Vi 0, Vn 0, Vi 0, Vi 0]) (by kernel_rfl) rfl (fun b12 => zh 14 rfl rfl rfl (z8 rfl) rfl (zD rfl (zD rfl (zA (zB (yN (cs := (RepD.cells r4_)) 9 rfl rfl rfl (yN (cs := (RepD.cells r13_)) 14 rfl rfl rfl (yd rfl (zKq (zL7 r4_ r13_) (by kernel_rfl) (by kernel_rfl) rfl rfl rfl rfl) ?_))))))))))))
   refine zC rfl (yY (q := ¬ (r4_ = r13_)) 3 3 [52, 51, 50] (¬ ((has5_ = true) ↔ (has14_ = true))) rfl rfl rfl rfl rfl rfl trivial rfl (fun h7_3 => ?_) (fun g7_7 => ?_))
   ·
    refine zO rfl (gF h7_3) (zC rfl (zO rfl (gF h7_3) (zC rfl (zO rfl (gF h7_3) (zMF (by kernel_rfl) (yb _) (yb _) rfl ?_)))))
    exact yL rfl (fun _ hw => hw)
   refine zC rfl (yY (q := (¬ (r4_ = r13_)) ∨ (¬ ((has5_ = true) ↔ (has14_ = true)))) 3 8 [57, 56, 55] (er6_ ≠ er15_) rfl rfl rfl rfl rfl rfl trivial rfl (fun h7_8 => ?_) (fun g7_12 => ?_))
   ·
    refine zO rfl (gF h7_8) (zC rfl (zO rfl (gF h7_8) (zC rfl (zO rfl (gF h7_8) (xn rfl rfl rfl ?_)))))
    exact yL rfl (fun _ hw => hw)
   refine zC rfl (yY (q := ((¬ (r4_ = r13_)) ∨ (¬ ((has5_ = true) ↔ (has14_ = true)))) ∨ (er6_ ≠ er15_)) 4 13 [63, 62, 61, 60] (false = true) rfl rfl rfl rfl rfl rfl trivial rfl (fun h7_13 => ?_) (fun g7_18 => ?_))
   ·
    refine zO rfl (gF h7_13) (zC rfl (zO rfl (gF h7_13) (zC rfl (zO rfl (gF h7_13) (zJ rfl rfl (fun w' hw => (zEm b tb cb bm lm idx'7_ now'8_ cnt'9_ kb'10_ kl'11_ _ wb idx'24_ now'16_ cnt'17_ bv'18_ lv'19_ rv'20_ bs'21_ ls'22_ rs'23_ w' hap.2.1 (hw.give [3, 4, 5, 6, 10, 11, 12, 13] rfl (by decide))).mono ?_))))))
    rintro _ w1 ⟨rfl, hO⟩
    refine (?_ : CL _ _ _ _ _ _ (Own w S [Res.vec 57 5 r2_ es3_.length (es3_.flatMap EntD.cells), Res.star (es3_.map EntD.dres), Res.row b8 57 (EntD.cells (zI es3_ 0)), Res.row cb 114 [.map (some rm)], Res.mp yU zq rm kr'12_, Res.row b9 43 (RepD.cells r4_), Res.row b12 43 (RepD.cells r13_), Res.row b 66 [.pointer (some ⟨tb, 0, none⟩), .pointer (some ⟨cb, 0, none⟩), Vn idx'7_], Res.row tb 111 [.map (some bm), .map (some lm), Vi now'8_, Vn cnt'9_], Res.mp Value.string yD bm kb'10_, Res.mp yA zZ lm kl'11_, Res.row wb 37 [Vi now'16_, Vn cnt'17_, bv'18_, lv'19_, rv'20_, Vn idx'24_], Res.vec 93 2 bv'18_ bs'21_.length (bs'21_.flatMap BudD.cells), Res.vec 76 5 lv'19_ ls'22_.length (ls'22_.flatMap LeaD.cells), Res.vec 43 6 rv'20_ rs'23_.length (rs'23_.flatMap RepD.cells)])) w1 (hw.frameL [3, 4, 5, 6, 10, 11, 12, 13] rfl hO)
    refine zO rfl (gF h7_13) (kY (b := true) rfl rfl ?_)
    exact yL (yb _) (fun _ hw => hw.sel [0, 1, 2, 7, 8, 9, 10, 3, 4, 5, 11, 12, 13, 14, 6] rfl (by decide))
   refine zA (zDt rfl (fun q => by rcases q with ((q | q) | q) | q; exact q hap.1.1; exact q (by rw [hap.1.2.1]); exact q hap.1.2.2; exact absurd q Bool.false_ne_true) (zK (zd (zC rfl (zt rfl rfl (zr (by omega)) rfl (zD rfl ?_))))))
   exact zj (fun w' hw => ⟨i + 1, idx'7_, now'8_, cnt'9_, kb'10_, kl'11_, kr'12_, idx'24_, now'16_, cnt'17_, bv'18_, lv'19_, rv'20_, bs'21_, ls'22_, rs'23_, ⟨rfl, rfl, rfl, rfl, trivial⟩, ⟨by have := hap.2.2; omega, hap.2.1⟩, hw.sel [3, 4, 5, 6, 7, 8, 10, 11, 12, 13] rfl (by decide), (by omega)⟩)
  ·
   refine yG rfl (zB (zD rfl (zA ?_)))
   exact zM (z6 (v := .bool true) rfl rfl (fun w' hw => ⟨idx', now', cnt', kb', kl', kr', idx3, now3, cnt3, bv', lv', rv', bs', ls', rs', rfl, hs2, by omega, by omega, hw⟩))
theorem zIj (v : Value) (l : List EntD) (w : World) (hw1 : ∀ x ∈ l, EntOk x) (hl : l.length ≤ 10000000) (hv : Rd w [] (Res.sl v l.length (l.flatMap EntD.cells))) (all_hv : ∀ p ∈ l, EntD.rd p w []) : Rets Tryz.prog 12 #[v] w fun u_ w' => ∃ (r : Value) (es : List EntD), u_ = r ∧ es.length ≤ 200 ∧ (∀ x ∈ es, EntOk x) ∧ Own w [] [Res.vec 57 5 r es.length (es.flatMap EntD.cells), Res.star (es.map EntD.dres)] w' := by
  refine zW Tryz.func12 rfl Tryz.ntmps12 (Own.start w) ?_
  refine zB (zD rfl (zA (zB (zD rfl (zA (zL (zB (zD rfl (zA (zT ?_))))))))))
  refine xS (fun (i : Nat) (r : Value) (es : List EntD) => [(0, v), (3, r), (4, Vj i)]) (fun (i : Nat) (r : Value) (es : List EntD) => (i ≤ l.length ∧ i ≤ 200 ∧ es.length = i) ∧ ∀ x ∈ es, EntOk x) (fun (i : Nat) (r : Value) (es : List EntD) => [Res.vec 57 5 r es.length (es.flatMap EntD.cells), Res.star (es.map EntD.dres)]) (fun (i : Nat) (r : Value) (es : List EntD) => l.length - i) (fun w' hw => ⟨0, .slice none 0 0, [], ⟨rfl, rfl, rfl, trivial⟩, ⟨⟨by omega, by omega, rfl⟩, fun x hx => nomatch hx⟩, (Own.starNil (yK hw 57 5))⟩) (fun i r es g hΦ => ?_)
  have hi1 := hΦ.1
  have he2 := hΦ.2
  have hdw : ∀ x ∈ (l.take (i + 1)).drop i, x.data.length ≤ 1000000000 := fun x hx => (hw1 x (List.mem_of_mem_take (List.mem_of_mem_drop hx))).wf.data
  refine zL (zB (zC rfl (zC rfl (yC (pR hv) rfl rfl (yI rfl rfl rfl (zC rfl (yP (q := ((i : Nat) : Int) < ((l.length : Nat) : Int)) 2 4 [12, 11] (((i : Nat) : Int) < 200) rfl rfl rfl rfl rfl rfl trivial rfl (fun h3_4 => ?_) (fun g3_7 => ?_))))))))
  ·
   refine zO rfl (gT h3_4) (zC rfl (zO rfl (gT h3_4) (yI rfl rfl rfl ?_)))
   exact yL rfl (fun _ hw => hw)
  refine zA (zU rfl (fun c1 => ?_) (fun c1 => ?_))
  ·
   refine zK (zL (zT (zB (zC rfl (zC rfl (zC rfl (zt rfl rfl (zr (by omega)) rfl (zAG (pR hv) 5 i (i + 1) (by kernel_rfl) rfl ⟨_, rfl⟩ ⟨_, rfl⟩ (by omega) (by omega) rfl ?_))))))))
   have hs1_ := Rd.subL_f (g := EntD.cells) (xs := l) (sz := 5) (fun _ => rfl) hv (l := i) (h := i + 1) (by omega) (by omega)
   refine zJ rfl rfl (fun w' hw => (zDL (ju v i (i + 1) 5) ((l.take (i + 1)).drop i) w' (by rw [List.length_drop, List.length_take]; omega) hdw (hw.rd0 hs1_) (zEz (zFM (fun p hp => EntD.rd.at0 (all_hv p hp) hw)))).mono ?_)
   rintro r2_ w1 ⟨_, es3_, rfl, hf5_5, hO⟩
   have hil : i < l.length := by omega
   have ho1 := zLF hil hf5_5
   have hj0 := ho1.1
   have hei := hw1 _ (yM hil)
   have hex : es3_.map EntD.dres = [({ (zI es3_ 0) with index := i + 1 } : EntD)].map EntD.dres := by rw [zNg hj0]; rfl
   refine (?_ : CL _ _ _ _ _ _ (Own w [] [Res.vec 57 5 r es.length (es.flatMap EntD.cells), Res.star (es.map EntD.dres), Res.vec 57 5 r2_ es3_.length (es3_.flatMap EntD.cells), Res.star (es3_.map EntD.dres)])) w1 (hw.frame0 hO)
   refine zH (pV 2 rfl) 5 0 rfl rfl rfl (by omega) rfl (xh (pV 2 rfl) 5 0 (off := yn r2_ + 0 * 5) (fun _ => rfl) rfl (by omega) (by omega) rfl (yF (v := .agg #[Vn 0, Vn 0, Vi 0, Vi 0, .slice none 0 0]) (by kernel_rfl) rfl (fun b5 => ?_)))
   refine yS (fun w' hw => Sl.cell1 (Rd.φ (EntD.rd.star0 3 rfl hw _ (yM (l := es3_) (j := 0) (by omega))).dv)) (fun hc1_ => ?_)
   refine zh 4 rfl rfl rfl (zn rfl (zn rfl (zn rfl (zn rfl (zn hc1_ yt))))) rfl (zA (zB (zC rfl (zt rfl rfl (zr (by omega)) rfl (yw (by kernel_rfl) rfl (kS (by omega)) rfl ?_ (by kernel_rfl))))))
   refine zP (o := 0) rfl rfl (yi (cs := (EntD.cells (zI es3_ 0))) 4 rfl rfl rfl rfl rfl (zA (zd (zC rfl (yN 4 rfl rfl rfl (yj (e := 57) (sz := 5) (vs := [.agg #[Vn (i + 1), Vn ((zI es3_ 0).term), Vi ((zI es3_ 0).kind), Vi ((zI es3_ 0).delta), (zI es3_ 0).dv]]) (by kernel_rfl) rfl rfl (by simp [Value.cells, EntD.cells]) (by decide) rfl (fun b30 => yu (g := EntD.cells) (sz := 5) (by' := 56) (fun _ => rfl) (l := es) (l' := [({ (zI es3_ 0) with index := i + 1 } : EntD)]) (all_cons ((zn rfl (zn rfl (zn rfl (zn rfl (zn hc1_ yt)))))) (by simp)) 0 (by kernel_rfl) rfl rfl rfl (fun w' hw' => Vec.sl (Own.holds hw' 5 _ rfl)) (by first | omega | (simp; omega)) (by decide) rfl (fun v31 => zD rfl (zA (zd (zC rfl (zt rfl rfl (zr (by omega)) rfl ?_))))))))))))
   refine zD rfl ?_
   exact zj (fun w' hw => ⟨i + 1, v31, es ++ [({ (zI es3_ 0) with index := i + 1 } : EntD)], ⟨rfl, rfl, rfl, trivial⟩, ⟨by rw [List.length_append]; simp; omega, fun x hx => by
     rcases List.mem_append.1 hx with hx | hx
     · exact he2 x hx
     · rw [List.mem_singleton.1 hx]; exact ⟨⟨by show i + 1 < _; omega, by show (zI es3_ 0).term < _; rw [show (zI es3_ 0).term = _ from congrArg EntA.term ho1.2]; exact hei.wf.term, by show (zI es3_ 0).data.length ≤ _; rw [show (zI es3_ 0).data = _ from congrArg EntA.data ho1.2]; exact hei.wf.data⟩, by show xY (zI es3_ 0).delta; rw [show (zI es3_ 0).delta = _ from congrArg EntA.delta ho1.2]; exact hei.delta⟩⟩, ((hw.starApp (m := [({ (zI es3_ 0) with index := i + 1 } : EntD)]) 1 3 (by decide) rfl (congrArg (fun q => some (Res.star q)) hex)).sel [0, 1] rfl (by decide)), (by omega)⟩)
  ·
   refine yG rfl (zB (zC rfl (zD rfl (zA ?_))))
   exact zM (z6 (v := r) rfl rfl (fun w' hw => ⟨r, es, rfl, by omega, he2, hw⟩))
theorem zHI (w : World) : Rets Tryz.prog 10 #[] w fun u_ w' => u_ = .bool true ∧ Own w [] [] w' := by
  refine zW Tryz.func10 rfl Tryz.ntmps10 (Own.start w) ?_
  refine zB (zD rfl (zA (zB (zJ rfl rfl (fun w' hw => (zFZ w').mono ?_)))))
  rintro _ w1 ⟨b1_, tb2_, cb3_, bm4_, lm5_, rm6_, rfl, hO⟩
  refine (?_ : CL _ _ _ _ _ _ (Own w [] [Res.row b1_ 66 [.pointer (some ⟨tb2_, 0, none⟩), .pointer (some ⟨cb3_, 0, none⟩), Vn 0], Res.row tb2_ 111 [.map (some bm4_), .map (some lm5_), Vi 0, Vn 0], Res.mp Value.string yD bm4_ ([] : List (ByteArray × Int)), Res.mp yA zZ lm5_ ([] : List (Nat × LeaD)), Res.row cb3_ 114 [.map (some rm6_)], Res.mp yU zq rm6_ ([] : List (Nat × RepD))])) w1 (hw.frame0 hO)
  refine zD rfl (zA (zL (zB (zC rfl (xE (by kernel_rfl) rfl rfl rfl (zA (xQ rfl (zK (zB (zC rfl (yQ (cs := [Vn 1, Vn 1, Vi 1, .string (⟨#[107]⟩ : ByteArray), Vi 5, Vi 0, Vn 0]) (z := [Vn 0, Vn 0, Vi 0, .string (⟨#[]⟩ : ByteArray), Vi 0, Vi 0, Vn 0]) (pl := [(0, 1), (1, 1), (2, 1), (3, 1), (4, 1), (5, 1), (6, 1)]) (by kernel_rfl) (by kernel_rfl) rfl (zJ rfl rfl (fun w' hw => ?_)))))))))))))
  refine (zKo b1_ tb2_ cb3_ bm4_ lm5_ rm6_ 0 0 0 [] [] [] ({ session := 1, seq := 1, op := 1, key := (⟨#[107]⟩ : ByteArray), amount := 5, span := 0, lease := 0 } : CmdD) w' zKh (by first | omega | (simp <;> omega)) (by first | omega | (simp <;> omega)) (by show (0 : Int) ≤ 0 ∧ (0 : Int) ≤ _; omega) (fun i l h => nomatch h) (hw.give [0, 1, 2, 3, 4, 5] rfl (by decide))).mono ?_
  rintro _ w1 ⟨r7_, did8_, cnt'9_, kb'10_, kl'11_, kr'12_, rfl, hf4_2, hO⟩
  refine (?_ : CL _ _ _ _ _ _ (Own w [] [Res.row b1_ 66 [.pointer (some ⟨tb2_, 0, none⟩), .pointer (some ⟨cb3_, 0, none⟩), Vn 0], Res.row tb2_ 111 [.map (some bm4_), .map (some lm5_), Vi 0, Vn cnt'9_], Res.mp Value.string yD bm4_ kb'10_, Res.mp yA zZ lm5_ kl'11_, Res.row cb3_ 114 [.map (some rm6_)], Res.mp yU zq rm6_ kr'12_])) w1 (hw.frameL [0, 1, 2, 3, 4, 5] rfl hO)
  refine zC rfl (zp (vs := [.agg (RepD.cells r7_).toArray, .bool did8_]) rfl rfl rfl (zp (vs := [.agg (RepD.cells r7_).toArray, .bool did8_]) rfl rfl rfl (yF (v := .agg #[Vn 0, Vn 0, Vi 0, Vn 0, Vi 0, Vi 0]) (by kernel_rfl) rfl (fun b2 => zh 6 rfl rfl rfl (z8 rfl) rfl (zD rfl (zA (zB (zC rfl (zC rfl (yP (q := did8_ = true) 3 1 [17, 16, 15] (r7_.e = 0) rfl rfl (yb _) rfl rfl rfl trivial rfl (fun h5_1 => ?_) (fun g5_5 => ?_)))))))))))
  ·
   refine zO rfl (bT h5_1) (zP (o := 2) rfl rfl (zO rfl (bT h5_1) (zS 6 (v := Vi r7_.e) rfl rfl rfl rfl (zO rfl (bT h5_1) (yo rfl rfl rfl ?_)))))
   exact yL rfl (fun _ hw => hw)
  refine zC rfl (yP (q := (did8_ = true) ∧ (r7_.e = 0)) 3 6 [22, 21, 20] (((r7_.seq : Nat) : Int) = ((1 : Nat) : Int)) rfl rfl rfl rfl rfl rfl trivial rfl (fun h5_6 => ?_) (fun g5_10 => ?_))
  ·
   refine zO rfl (gT h5_6) (zP (o := 1) rfl rfl (zO rfl (gT h5_6) (zS 6 (v := Vn r7_.seq) rfl rfl rfl rfl (zO rfl (gT h5_6) (yo rfl rfl rfl ?_)))))
   exact yL rfl (fun _ hw => hw)
  refine zD rfl (zA ?_)
  exact zM (z6 (v := .bool (decide (((did8_ = true) ∧ (r7_.e = 0)) ∧ (((r7_.seq : Nat) : Int) = ((1 : Nat) : Int))))) rfl rfl (fun w' hw => ⟨(by congr 1; exact decide_eq_true (zKZ hf4_2)), hw.drop⟩))
end Go.Proofs.YthincafbmpialaaGreat
