/-
  THE LAWS QuotaBack AND QuotaEnds.
-/
import Derived.Test.YtgkeoenbcjfeaaaGreatQuotaL
set_option linter.unusedVariables false
set_option maxRecDepth 10000
namespace Go.Proofs.YtgkeoenbcjfeaaaGreat
open Go Go.Sc Go.Proofs

structure Grown (c now : Int) (cnt : Nat) (kb : List (ByteArray × Int)) (kl : List (Nat × LeaD)) (bs : List BudD) (ls : List LeaD) : Prop where
  ok : QOk now cnt bs ls
  rel : QRel kb kl bs ls
  cnt : (cnt : Int) ≤ c
section
variable {now : Int} {cnt : Nat} {bs : List BudD} {ls : List LeaD} {kb : List (ByteArray × Int)} {kl kl1 kl2 : List (Nat × LeaD)} {s o : Nat} {k : ByteArray} {a sp e : Int} {x y : LeaD}
structure Lent1 (now : Int) (cnt : Nat) (kl kl1 : List (Nat × LeaD)) (ls : List LeaD) (s : Nat) (k : ByteArray) (a sp : Int) (x : LeaD) : Prop where
  eq : x = ⟨cnt + 1, s, k, a, now + sp⟩
  new : getA x.id kl = none
  app : kl1 = kl ++ [(x.id, x)]
  get : getA x.id kl1 = some x
  del : delA x.id kl1 = kl
  nd : KNd kl1
  len : kl1.length ≤ 128
  lent : lentK k kl1 = lentS k ls + a
  lent0 : lentK k kl = lentS k ls
  b0 : 0 ≤ lentS k ls
  b1 : lentS k ls + a ≤ 9223372036854775807
  a1 : 1 ≤ a
  sp : 1 ≤ sp ∧ sp ≤ 1099511627776
end
theorem time_s (b bm lm : Nat) (now : Int) (cnt : Nat) (w : World) (hin : Own w (fps [Res.row b 58 [.map (some bm), .map (some lm), .int .i64 now, .int .u64 (cnt : Nat)]]) [Res.row b 58 [.map (some bm), .map (some lm), .int .i64 now, .int .u64 (cnt : Nat)]] w) : Rets Tryz.prog 9 #[.pointer (some ⟨b, 0, none⟩)] w fun u_ w' => u_ = .int .i64 now ∧ Own w (fps [Res.row b 58 [.map (some bm), .map (some lm), .int .i64 now, .int .u64 (cnt : Nat)]]) [Res.row b 58 [.map (some bm), .map (some lm), .int .i64 now, .int .u64 (cnt : Nat)]] w' := by
  refine fn_enter (args := [.pointer (some ⟨b, 0, none⟩)]) Tryz.func9 rfl Tryz.ntmps9 rfl (show Own w (fps [Res.row b 58 [.map (some bm), .map (some lm), .int .i64 now, .int .u64 (cnt : Nat)]]) [Res.row b 58 [.map (some bm), .map (some lm), .int .i64 now, .int .u64 (cnt : Nat)]] w from hin) ?_
  refine c_reg ?_
  refine l_as rfl ?_
  refine l_end ?_
  refine c_seq ?_
  refine c_reg ?_
  refine l_mv rfl ?_
  refine l_nilp (by kernel_rfl) rfl rfl rfl ?_
  refine l_end ?_
  refine c_no rfl ?_
  refine c_skipC ?_
  refine c_reg ?_
  refine l_mv rfl ?_
  refine l_nck rfl rfl ?_
  refine l_fld (o := 2) rfl (by kernel_rfl) rfl ?_
  refine l_ldo 0 (v := .int .i64 now) rfl rfl rfl (by kernel_rfl) rfl ?_
  refine l_as rfl ?_
  refine l_end ?_
  exact c_ret (ret1 (v := .int .i64 now) rfl rfl (fun w' hw => ⟨rfl, hw⟩))
-- no function scupper/scupperlaw13.QuotaBack
-- no function scupper/scupperlaw13.QuotaEnds
end Go.Proofs.YtgkeoenbcjfeaaaGreat
