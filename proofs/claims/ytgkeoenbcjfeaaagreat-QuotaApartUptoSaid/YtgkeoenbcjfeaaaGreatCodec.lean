/-
  THE WALKS OF codec AND OF WHAT IT CALLS: bits.Len64, slices.Clone, slices.Clip, PutNum.
-/
import Derived.Test.YtgkeoenbcjfeaaaGreatBytes
import Derived.Test.YtgkeoenbcjfeaaaGreatProg
set_option linter.unusedVariables false
set_option maxRecDepth 10000
namespace Go.Proofs.YtgkeoenbcjfeaaaGreat
open Go Go.Sc Go.Proofs

theorem len64_spec (n : Nat) (hn : n < 18446744073709551616) (w : World) :
    Rets Tryz.prog 73 #[.int .u64 n] w fun v w' => v = .int .i64 (bitLen n) ∧ Own w [] [] w' := by
  refine fn_enter (args := [.int .u64 n]) Tryz.func73 rfl Tryz.ntmps73 rfl (Own.start w) ?_
  refine c_reg ?_
  refine l_as rfl ?_
  refine l_end ?_
  refine c_cutO (Nat × Nat) (fun s => [(0, .int .u64 s.1), (2, .int .i64 s.2)]) (fun s => bitLen n = bitLen s.1 + s.2 ∧ s.1 < 4294967296 ∧ s.2 ≤ 32) (fun _ => []) ?_ (fun s g ⟨h1, h2, h3⟩ => ?_)
  · refine c_reg ?_
    refine l_mv rfl ?_
    refine l_geq rfl rfl rfl ?_
    refine l_end ?_
    refine c_dec rfl (fun c1 => ?_) (fun c1 => ?_)
    · refine c_reg ?_
      refine l_mv rfl ?_
      refine l_shr (c := ((n / 4294967296 : Nat) : Int)) rfl rfl (by omega) (by show (n : Int).fdiv 4294967296 = _; rw [Int.fdiv_eq_ediv_of_nonneg _ (by omega)]; omega) rfl ?_
      refine l_as rfl ?_
      refine l_end ?_
      refine c_last ?_
      refine l_as rfl ?_
      have hb : bitLen n = bitLen (n / 4294967296) + 32 := bitLen_shift (k := 32) (by omega)
      exact l_nil (fun w hw => ⟨(n / 4294967296, 0 + 32), ⟨rfl, rfl, trivial⟩, ⟨by show bitLen n = bitLen (n / 4294967296) + (0 + 32); omega, by omega, by omega⟩, hw⟩)
    · exact c_skip (fun w hw => ⟨(n, 0), ⟨rfl, rfl, trivial⟩, ⟨by show bitLen n = bitLen n + 0; omega, by omega, by omega⟩, hw⟩)
  refine c_cutO (Nat × Nat) (fun s => [(0, .int .u64 s.1), (2, .int .i64 s.2)]) (fun s => bitLen n = bitLen s.1 + s.2 ∧ s.1 < 65536 ∧ s.2 ≤ 48) (fun _ => []) ?_ (fun s g ⟨h1, h2, h3⟩ => ?_)
  · refine c_reg ?_
    refine l_mv rfl ?_
    refine l_geq rfl rfl rfl ?_
    refine l_end ?_
    refine c_dec rfl (fun c1 => ?_) (fun c1 => ?_)
    · refine c_reg ?_
      refine l_mv rfl ?_
      refine l_shr (c := ((s.1 / 65536 : Nat) : Int)) rfl rfl (by omega) (by show (s.1 : Int).fdiv 65536 = _; rw [Int.fdiv_eq_ediv_of_nonneg _ (by omega)]; omega) rfl ?_
      refine l_as rfl ?_
      refine l_end ?_
      refine c_last ?_
      refine l_mv rfl ?_
      refine l_add (c := ((s.2 + 16 : Nat) : Int)) rfl rfl (by rw [wi64 (by omega)]; omega) rfl ?_
      refine l_as rfl ?_
      have hb : bitLen s.1 = bitLen (s.1 / 65536) + 16 := bitLen_shift (k := 16) (by omega)
      exact l_nil (fun w hw => ⟨(s.1 / 65536, s.2 + 16), ⟨rfl, rfl, trivial⟩, ⟨by show bitLen n = bitLen (s.1 / 65536) + (s.2 + 16); omega, by omega, by omega⟩, hw⟩)
    · exact c_skip (fun w hw => ⟨(s.1, s.2), ⟨rfl, rfl, trivial⟩, ⟨by show bitLen n = bitLen s.1 + s.2; omega, by omega, by omega⟩, hw⟩)
  refine c_cutO (Nat × Nat) (fun s => [(0, .int .u64 s.1), (2, .int .i64 s.2)]) (fun s => bitLen n = bitLen s.1 + s.2 ∧ s.1 < 256 ∧ s.2 ≤ 56) (fun _ => []) ?_ (fun s g ⟨h1, h2, h3⟩ => ?_)
  · refine c_reg ?_
    refine l_mv rfl ?_
    refine l_geq rfl rfl rfl ?_
    refine l_end ?_
    refine c_dec rfl (fun c1 => ?_) (fun c1 => ?_)
    · refine c_reg ?_
      refine l_mv rfl ?_
      refine l_shr (c := ((s.1 / 256 : Nat) : Int)) rfl rfl (by omega) (by show (s.1 : Int).fdiv 256 = _; rw [Int.fdiv_eq_ediv_of_nonneg _ (by omega)]; omega) rfl ?_
      refine l_as rfl ?_
      refine l_end ?_
      refine c_last ?_
      refine l_mv rfl ?_
      refine l_add (c := ((s.2 + 8 : Nat) : Int)) rfl rfl (by rw [wi64 (by omega)]; omega) rfl ?_
      refine l_as rfl ?_
      have hb : bitLen s.1 = bitLen (s.1 / 256) + 8 := bitLen_shift (k := 8) (by omega)
      exact l_nil (fun w hw => ⟨(s.1 / 256, s.2 + 8), ⟨rfl, rfl, trivial⟩, ⟨by show bitLen n = bitLen (s.1 / 256) + (s.2 + 8); omega, by omega, by omega⟩, hw⟩)
    · exact c_skip (fun w hw => ⟨(s.1, s.2), ⟨rfl, rfl, trivial⟩, ⟨by show bitLen n = bitLen s.1 + s.2; omega, by omega, by omega⟩, hw⟩)
  refine c_reg ?_
  refine l_mv rfl ?_
  refine l_mv rfl ?_
  refine l_cvt rfl rfl (wu8' (by omega)) rfl ?_ (by kernel_rfl)
  have hl : s.1 < (ByteArray.mk lenTabL.toArray).size := by rw [show (ByteArray.mk lenTabL.toArray).size = 256 by kernel_rfl]; exact h2
  refine l_sat (s := ⟨lenTabL.toArray⟩) (by kernel_rfl) (by kernel_rfl) rfl rfl hl rfl ?_
  have ht : ((ByteArray.mk lenTabL.toArray)[s.1]).toNat = bitLen s.1 := by
    have := lenTab_at ⟨s.1, h2⟩
    rw [List.getElem?_eq_getElem (show s.1 < lenTabL.length from h2)] at this
    exact Option.some.inj this
  have hle := bitLen_le_of_lt (n := s.1) (k := 8) h2
  refine l_cvt (c := (bitLen s.1 : Int)) (by kernel_rfl) rfl (by rw [ht]; exact wi64 (by omega)) rfl ?_ (by kernel_rfl)
  refine l_add (c := (bitLen n : Int)) rfl rfl (by rw [wi64 (by omega), h1]; omega) rfl ?_
  refine l_as rfl ?_
  refine l_end ?_
  exact c_ret (ret1 rfl rfl (fun w hw => ⟨rfl, hw⟩))

abbrev T8 : Nat := 5
/-- v is the list of bytes bs. -/
def BSl (w : World) (v : Value) (bs : List UInt8) : Prop := Sl w v bs.length (bs.map vb)
def bvec (v : Value) (bs : List UInt8) : Res := Res.vec T8 1 v bs.length (bs.map vb)
-- left out: []uint8
-- left out: slices.Clone[[]byte,byte]
-- left out: slices.Clip[[]byte,byte]
-- left out: scupper/codec.PutNum
end Go.Proofs.YtgkeoenbcjfeaaaGreat
