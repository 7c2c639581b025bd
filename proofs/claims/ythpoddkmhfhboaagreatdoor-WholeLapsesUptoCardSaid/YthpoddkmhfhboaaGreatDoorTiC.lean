import Derived.Test.YthpoddkmhfhboaaGreatDoorRows
import Derived.LaidByTextLater
set_option linter.unusedSimpArgs false
set_option linter.unusedVariables false
namespace Go.Proofs.YthpoddkmhfhboaaGreatDoor
def laidL : List (String × DataW Unit) := [("unicode/utf8.acceptRanges", Rows.laid_unicode_utf8_acceptRanges), ("strconv.ErrSyntax", Rows.laid_strconv_ErrSyntax), ("strconv.ErrRange", Rows.laid_strconv_ErrRange), ("internal/strconv.uint64pow10", Rows.laid_internal_strconv_uint64pow10), ("math/bits.deBruijn32tab", Rows.laid_math_bits_deBruijn32tab), ("math/bits.deBruijn64tab", Rows.laid_math_bits_deBruijn64tab)]
theorem ta1:Tryz.prog.worded (varsWordLater true)=true:=by kernel_rfl
theorem ta2:Tryz.prog.worded (varsWordLater !true)=false:=by kernel_rfl
theorem ta3:Tryz.prog.worded rootWordLater=true:=by kernel_rfl
theorem tb1:laidL.map (fun x=>Tryz.prog.kindOfLater x.1)=[LaidKind.data, .sentinel, .sentinel, .data, .data, .data].map some:=by kernel_rfl
theorem tb2 : (Tryz.prog.funcNamed "gosem.cut.vars").isSome = true := by kernel_rfl
theorem tc:varsNamedLaterB Tryz.prog (varsId Tryz.prog) laidL=true:=by kernel_rfl
end Go.Proofs.YthpoddkmhfhboaaGreatDoor
