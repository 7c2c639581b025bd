import Derived.Test.YthpoddkmhfhboaaGreatDoorCards
import Derived.Test.YthpoddkmhfhboaaGreatDoorCpC
import Derived.SevenTiedAt
import Derived.JoinedCond
set_option linter.unusedSimpArgs false
set_option linter.unusedVariables false
set_option maxRecDepth 100000
namespace Go.Proofs.YthpoddkmhfhboaaGreatDoor
open Go Go.Proofs
namespace cardC
theorem fid : Tryz.prog.funcNamed "scupper/scuppertop.WholeLapses" = some 3 := by kernel_rfl
theorem zUe:Tryz.prog.goes 3=false:=by
 unfold Program.goes Program.unfollowed
 rw[zFh]
 kernel_rfl
theorem zRQ(P:Program)(n:String)(f:FuncId)(h:P.funcNamed n=some f)(g:P.goes f=false):P.goesAt .entering n=false:=by
 unfold Program.goesAt Program.goesFrom
 rw[h,Option.any_some,g]
 rfl
theorem goes:false=Rows.wholeLapsesUptoRow.goesBy Tryz.pinned.checked.prog:=
 (zRQ Tryz.prog _ _ fid zUe).symm
theorem wfText:Rows.wholeLapsesUptoRow.wfByText (Rows.OpenSpec.upto Rows.wholeLapsesSpec)=true:=by kernel_rfl
theorem mainIs:Tryz.pinned.checked.prog.mainIs=some (Rows.wholeLapsesUptoCard.stood.harness.1,Rows.wholeLapsesUptoCard.stood.harness.2.toList):=by kernel_rfl
theorem noLooks:true=Tryz.pinned.checked.prog.looks []:=by kernel_rfl
end cardC
namespace ownC
theorem inst:Tryz.f3.isInstance Tryz.prog Rows.wholeLapsesUptoRow.origin Rows.wholeLapsesUptoRow.targs:=of_decide_eq_true (by kernel_rfl)
theorem wrap:Tryz.f3.isWrapper Tryz.prog Rows.wholeLapsesUptoRow.wrapper Rows.wholeLapsesUptoRow.mainSum:=by
 unfold Func.isWrapper;first|(rw[if_pos (by decide+kernel)];kernel_rfl)|(rw[if_neg (by decide+kernel)];exact⟨rfl,rfl⟩)
end ownC
end Go.Proofs.YthpoddkmhfhboaaGreatDoor
