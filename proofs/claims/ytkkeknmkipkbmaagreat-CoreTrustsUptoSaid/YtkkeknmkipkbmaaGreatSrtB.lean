import Derived.Test.YtkkeknmkipkbmaaGreatFwX
import Derived.Test.YtkkeknmkipkbmaaGreatFwU
import Derived.Test.YtkkeknmkipkbmaaGreatCodec
import Derived.Test.YtkkeknmkipkbmaaGreatChecked
set_option linter.unusedSectionVars false
set_option linter.unusedSimpArgs false
set_option linter.unusedVariables false
set_option maxRecDepth 10000
namespace Go.Proofs.YtkkeknmkipkbmaaGreat
open Go Go.Sc Go.Proofs
theorem vi {a b : Int} (h : a = b) : Value.int .i64 a = Value.int .i64 b := by rw [h]
theorem wsi {a b : Nat} (h : b ≤ a) (h2 : a < 9223372036854775808) : IntKind.i64.wrap ((a : Int) - (b : Int)) = ((a - b : Nat) : Int) := by
  rw [show (a : Int) - (b : Int) = ((a - b : Nat) : Int) by omega]; exact zy (by omega)
theorem zCP {a : Nat} (h : 1 ≤ a) (h2 : a < 9223372036854775808) : IntKind.i64.wrap ((a : Int) - 1) = ((a - 1 : Nat) : Int) := wsi (b := 1) h h2
theorem qui {a b : Nat} (h : a < 9223372036854775808) : IntKind.i64.wrap ((a : Int).tdiv (b : Int)) = ((a / b : Nat) : Int) := by
  have : (a : Int).tdiv (b : Int) = ((a / b : Nat) : Int) := rfl
  rw [this]
  have h2 := Nat.div_le_self a b
  generalize a / b = c at h2 ⊢
  exact zy (by omega)
def zJW (a b : Int) : Int := IntKind.u64.wrap (((a % 2 ^ IntKind.u64.bits).toNat ^^^ (b % 2 ^ IntKind.u64.bits).toNat : Nat) : Int)
def zKl (a b : Int) : Int := IntKind.u64.wrap (a * 2 ^ (min b.toNat IntKind.u64.bits))
def zK9 (a b : Int) : Int := a.fdiv (2 ^ (min b.toNat IntKind.u64.bits))
def xs1 (x : Int) : Int := zJW x (zKl x 13)
def xs2 (x : Int) : Int := zJW (xs1 x) (zK9 (xs1 x) 7)
def xs3 (x : Int) : Int := zJW (xs2 x) (zKl (xs2 x) 17)
theorem zIB (n : Nat) (w : World) (hn : n < 18446744073709551616) : Rets Tryz.prog 188 #[.int .u64 (n : Nat)] w fun u_ w' => u_ = .int .i64 ((z9 n) : Nat) ∧ Own w [] [] w' := by
  exact zBW n hn w
theorem zIo (n : Nat) (w : World) (hn : n < 18446744073709551616) : Rets Tryz.prog 143 #[.int .u64 (n : Nat)] w fun u_ w' => u_ = .int .i64 ((z9 n) : Nat) ∧ Own w [] [] w' := by
  refine xZ (args := [.int .u64 (n : Nat)]) Tryz.func143 rfl Tryz.ntmps143 rfl (Own.start w) ?_
  refine zB ?_
  refine zK rfl ?_
  refine zA ?_
  refine zQ ?_
  refine x8 rfl ?_
  refine zR ?_
  refine zB ?_
  refine zD rfl ?_
  refine zAa (by kernel_rfl) rfl rfl (fun w' hw => ?_)
  refine (zIB n w' (by first | assumption | omega | (simp <;> omega) | (constructor <;> (first | omega | (simp only [zd]; omega) | (simp <;> omega))))).mono ?_
  rintro _ w1 ⟨rfl, hO⟩
  refine (?_ : CL _ _ _ _ _ _ (Own w [] [])) w1 (hw.frame0 hO)
  refine zK rfl ?_
  refine zA ?_
  exact zY (yD (v := .int .i64 ((z9 n) : Nat)) rfl rfl (fun w' hw => ⟨rfl, hw.drop⟩))
end Go.Proofs.YtkkeknmkipkbmaaGreat
