import Derived.Test.YtkkeknmkipkbmaaGreatSrt
import Derived.Test.YtkkeknmkipkbmaaGreatFwU
import Derived.Test.YtkkeknmkipkbmaaGreatCodec
import Derived.Test.YtkkeknmkipkbmaaGreatChecked
import Derived.Test.YtkkeknmkipkbmaaGreatFwG
import Derived.Test.YtkkeknmkipkbmaaGreatConfA
set_option linter.unusedSectionVars false
set_option linter.unusedSimpArgs false
set_option linter.unusedVariables false
set_option maxRecDepth 10000
namespace Go.Proofs.YtkkeknmkipkbmaaGreat
open Go Go.Sc Go.Proofs
theorem vi {a b : Int} (h : a = b) : Value.int .i64 a = Value.int .i64 b := by rw [h]
def zEb (a b : Int) : Int := IntKind.u64.wrap (((a % 2 ^ IntKind.u64.bits).toNat ^^^ (b % 2 ^ IntKind.u64.bits).toNat : Nat) : Int)
def zEx (a b : Int) : Int := IntKind.u64.wrap (a * 2 ^ (min b.toNat IntKind.u64.bits))
def zFY (a b : Int) : Int := a.fdiv (2 ^ (min b.toNat IntKind.u64.bits))
def xs1 (x : Int) : Int := zEb x (zEx x 13)
def xs2 (x : Int) : Int := zEb (xs1 x) (zFY (xs1 x) 7)
def xs3 (x : Int) : Int := zEb (xs2 x) (zEx (xs2 x) 17)
theorem zDR (n : Nat) (w : World) (hn : n < 18446744073709551616) : Rets Tryz.prog 188 #[.int .u64 (n : Nat)] w fun u_ w' => u_ = .int .i64 ((zb n) : Nat) ∧ Own w [] [] w' := by
  exact jN n hn w
theorem zDl (n : Nat) (w : World) (hn : n < 18446744073709551616) : Rets Tryz.prog 143 #[.int .u64 (n : Nat)] w fun u_ w' => u_ = .int .i64 ((zb n) : Nat) ∧ Own w [] [] w' := by
  refine yc (args := [.int .u64 (n : Nat)]) Tryz.func143 rfl Tryz.ntmps143 rfl (Own.start w) ?_
  refine zB ?_
  refine zH rfl ?_
  refine zA ?_
  refine zQ ?_
  refine xO rfl ?_
  refine zP ?_
  refine zB ?_
  refine zC rfl ?_
  refine kI (by kernel_rfl) rfl rfl (fun w' hw => ?_)
  refine (zDR n w' (by first | assumption | omega | (simp <;> omega) | (constructor <;> (first | omega | (simp only [zT]; omega) | (simp <;> omega))))).mono ?_
  rintro _ w1 ⟨rfl, hO⟩
  refine (?_ : CL _ _ _ _ _ _ (Own w [] [])) w1 (hw.frame0 hO)
  refine zH rfl ?_
  refine zA ?_
  exact zS (zx (v := .int .i64 ((zb n) : Nat)) rfl rfl (fun w' hw => ⟨rfl, hw.drop⟩))
theorem zEn {S : List Nat} (v : Value) (l : List Nat) (n : Nat) (w : World) (hn : n ≤ 1) (hin : Own w S [Res.vec 22 1 v l.length (l.flatMap U1)] w) : Rets Tryz.prog 209 #[v, Vj 0, Vj n] w fun u_ w' => u_ = .tuple #[] ∧ Own w S [Res.vec 22 1 v l.length (l.flatMap U1)] w' := by
  refine zR Tryz.func209 rfl Tryz.ntmps209 hin ?_
  refine zB (zC rfl (zu rfl rfl (zo (by omega)) rfl (zH rfl (zA (zY ?_)))))
  refine yM (fun (k : Nat) => [(0, v), (1, Vj 0), (2, Vj n), (6, Vj k)]) (fun (k : Nat) => k = 1) (fun (k : Nat) => [Res.vec 22 1 v l.length (l.flatMap U1)]) (fun (k : Nat) => 0) (fun w' hw => ⟨1, ⟨rfl, rfl, rfl, rfl, trivial⟩, rfl, hw⟩) (fun k g hΦ => ?_)
  have hk := hΦ
  refine zQ (zB (zC rfl (zC rfl (z4 rfl rfl rfl (zA (zV rfl (fun c1 => ?_) (fun c1 => ?_)))))))
  ·
   exact absurd c1 (by omega)
  ·
   exact xQ rfl (yb rfl (fun w' hw => ⟨rfl, hw⟩))
theorem zEq {S : List Nat} (v : Value) (l : List Nat) (n : Nat) (lim : Int) (w : World) (hn : n ≤ 1) (hin : Own w S [Res.vec 22 1 v l.length (l.flatMap U1)] w) : Rets Tryz.prog 197 #[v, Vj 0, Vj n, Vi lim] w fun u_ w' => u_ = .tuple #[] ∧ Own w S [Res.vec 22 1 v l.length (l.flatMap U1)] w' := by
  refine zR Tryz.func197 rfl Tryz.ntmps197 hin ?_
  refine zB (zH rfl (zA (zB (zH rfl (zA (zY ?_))))))
  refine yM (fun (k : Nat) => [(0, v), (1, Vj 0), (2, Vj n), (3, Vi lim), (8, .bool true), (9, .bool true)]) (fun (k : Nat) => k = 1) (fun (k : Nat) => [Res.vec 22 1 v l.length (l.flatMap U1)]) (fun (k : Nat) => 0) (fun w' hw => ⟨1, ⟨rfl, rfl, rfl, rfl, rfl, rfl, trivial⟩, rfl, hw⟩) (fun k g hΦ => ?_)
  refine zY (zB (zC rfl (zC rfl (xW (c := ((n : Nat) : Int)) rfl rfl (zo (by omega)) rfl (zH rfl (zA (zQ (zB (zC rfl (xX rfl rfl rfl (zA (zV rfl (fun c1 => ?_) (fun c1 => ?_)))))))))))))
  ·
   refine zB (zC rfl (zC rfl (zC rfl (zF rfl rfl (fun w' hw => (zEn v l n w' (by first | omega | (simp <;> omega)) (hw.give [0] rfl (by decide))).mono ?_)))))
   rintro _ w1 ⟨rfl, hO⟩
   refine (?_ : CL _ _ _ _ _ _ (Own w S [Res.vec 22 1 v l.length (l.flatMap U1)])) w1 (hw.frameL [0] rfl hO)
   refine zA ?_
   exact zS (yb rfl (fun w' hw => ⟨rfl, hw⟩))
  ·
   exact absurd c1 (by omega)
theorem zDY {S : List Nat} (v : Value) (l : List Nat) (w : World) (hl : l.length ≤ 1) (hin : Own w S [Res.vec 22 1 v l.length (l.flatMap U1)] w) : Rets Tryz.prog 164 #[v] w fun u_ w' => u_ = .tuple #[] ∧ Own w S [Res.vec 22 1 v l.length (l.flatMap U1)] w' := by
  refine zR Tryz.func164 rfl Tryz.ntmps164 hin ?_
  refine zB (zC rfl (zk (pV 0 rfl) rfl rfl (zH rfl (zA (zZ (zC rfl (zC rfl (zC rfl (yf (by kernel_rfl) rfl (yn (by omega)) rfl ?_ (by kernel_rfl))))))))))
  refine zF rfl rfl (fun w' hw => (zDl l.length w' (by first | omega | (simp <;> omega))).mono ?_)
  rintro _ w1 ⟨rfl, hO⟩
  refine (?_ : CL _ _ _ _ _ _ (Own w S [Res.vec 22 1 v l.length (l.flatMap U1)])) w1 (hw.frame0 hO)
  refine zF rfl rfl (fun w' hw => (zEq v l l.length (((zb l.length) : Nat) : Int) w' (by first | omega | (simp <;> omega)) (hw.give [0] rfl (by decide))).mono ?_)
  rintro _ w1 ⟨rfl, hO⟩
  refine (?_ : CL _ _ _ _ _ _ (Own w S [Res.vec 22 1 v l.length (l.flatMap U1)])) w1 (hw.frameL [0] rfl hO)
  exact zl (yb rfl (fun w' hw => ⟨rfl, hw⟩))
theorem zEE {S : List Nat} (v : Value) (l : List Int) (n : Nat) (w : World) (hn : n ≤ 1) (hin : Own w S [Res.vec 3 1 v l.length (l.flatMap I1)] w) : Rets Tryz.prog 219 #[v, Vj 0, Vj n] w fun u_ w' => u_ = .tuple #[] ∧ Own w S [Res.vec 3 1 v l.length (l.flatMap I1)] w' := by
  refine zR Tryz.func219 rfl Tryz.ntmps219 hin ?_
  refine zB (zC rfl (zu rfl rfl (zo (by omega)) rfl (zH rfl (zA (zY ?_)))))
  refine yM (fun (k : Nat) => [(0, v), (1, Vj 0), (2, Vj n), (6, Vj k)]) (fun (k : Nat) => k = 1) (fun (k : Nat) => [Res.vec 3 1 v l.length (l.flatMap I1)]) (fun (k : Nat) => 0) (fun w' hw => ⟨1, ⟨rfl, rfl, rfl, rfl, trivial⟩, rfl, hw⟩) (fun k g hΦ => ?_)
  have hk := hΦ
  refine zQ (zB (zC rfl (zC rfl (z4 rfl rfl rfl (zA (zV rfl (fun c1 => ?_) (fun c1 => ?_)))))))
  ·
   exact absurd c1 (by omega)
  ·
   exact xQ rfl (yb rfl (fun w' hw => ⟨rfl, hw⟩))
theorem zD3 {S : List Nat} (v : Value) (l : List Int) (n : Nat) (lim : Int) (w : World) (hn : n ≤ 1) (hin : Own w S [Res.vec 3 1 v l.length (l.flatMap I1)] w) : Rets Tryz.prog 208 #[v, Vj 0, Vj n, Vi lim] w fun u_ w' => u_ = .tuple #[] ∧ Own w S [Res.vec 3 1 v l.length (l.flatMap I1)] w' := by
  refine zR Tryz.func208 rfl Tryz.ntmps208 hin ?_
  refine zB (zH rfl (zA (zB (zH rfl (zA (zY ?_))))))
  refine yM (fun (k : Nat) => [(0, v), (1, Vj 0), (2, Vj n), (3, Vi lim), (8, .bool true), (9, .bool true)]) (fun (k : Nat) => k = 1) (fun (k : Nat) => [Res.vec 3 1 v l.length (l.flatMap I1)]) (fun (k : Nat) => 0) (fun w' hw => ⟨1, ⟨rfl, rfl, rfl, rfl, rfl, rfl, trivial⟩, rfl, hw⟩) (fun k g hΦ => ?_)
  refine zY (zB (zC rfl (zC rfl (xW (c := ((n : Nat) : Int)) rfl rfl (zo (by omega)) rfl (zH rfl (zA (zQ (zB (zC rfl (xX rfl rfl rfl (zA (zV rfl (fun c1 => ?_) (fun c1 => ?_)))))))))))))
  ·
   refine zB (zC rfl (zC rfl (zC rfl (zF rfl rfl (fun w' hw => (zEE v l n w' (by first | omega | (simp <;> omega)) (hw.give [0] rfl (by decide))).mono ?_)))))
   rintro _ w1 ⟨rfl, hO⟩
   refine (?_ : CL _ _ _ _ _ _ (Own w S [Res.vec 3 1 v l.length (l.flatMap I1)])) w1 (hw.frameL [0] rfl hO)
   refine zA ?_
   exact zS (yb rfl (fun w' hw => ⟨rfl, hw⟩))
  ·
   exact absurd c1 (by omega)
theorem zDh {S : List Nat} (v : Value) (l : List Int) (w : World) (hl : l.length ≤ 1) (hin : Own w S [Res.vec 3 1 v l.length (l.flatMap I1)] w) : Rets Tryz.prog 193 #[v] w fun u_ w' => u_ = .tuple #[] ∧ Own w S [Res.vec 3 1 v l.length (l.flatMap I1)] w' := by
  refine zR Tryz.func193 rfl Tryz.ntmps193 hin ?_
  refine zB (zC rfl (zk (pV 0 rfl) rfl rfl (zH rfl (zA (zZ (zC rfl (zC rfl (zC rfl (yf (by kernel_rfl) rfl (yn (by omega)) rfl ?_ (by kernel_rfl))))))))))
  refine zF rfl rfl (fun w' hw => (zDl l.length w' (by first | omega | (simp <;> omega))).mono ?_)
  rintro _ w1 ⟨rfl, hO⟩
  refine (?_ : CL _ _ _ _ _ _ (Own w S [Res.vec 3 1 v l.length (l.flatMap I1)])) w1 (hw.frame0 hO)
  refine zF rfl rfl (fun w' hw => (zD3 v l l.length (((zb l.length) : Nat) : Int) w' (by first | omega | (simp <;> omega)) (hw.give [0] rfl (by decide))).mono ?_)
  rintro _ w1 ⟨rfl, hO⟩
  refine (?_ : CL _ _ _ _ _ _ (Own w S [Res.vec 3 1 v l.length (l.flatMap I1)])) w1 (hw.frameL [0] rfl hO)
  exact zl (yb rfl (fun w' hw => ⟨rfl, hw⟩))
end Go.Proofs.YtkkeknmkipkbmaaGreat
