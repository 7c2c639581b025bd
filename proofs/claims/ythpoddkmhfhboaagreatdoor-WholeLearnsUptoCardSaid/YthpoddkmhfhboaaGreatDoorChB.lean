import Derived.Test.YthpoddkmhfhboaaGreatDoorCards
import Derived.Test.YthpoddkmhfhboaaGreatDoorCpB
import Derived.SevenTiedAt
import Derived.JoinedCond
set_option linter.unusedSimpArgs false
set_option linter.unusedVariables false
set_option maxRecDepth 100000
namespace Go.Proofs.YthpoddkmhfhboaaGreatDoor
open Go Go.Proofs
namespace cardB
theorem fid : Tryz.prog.funcNamed "scupper/scuppertop.WholeLearns" = some 4 := by kernel_rfl
theorem zT9:Tryz.prog.goes 4=false:=by
 unfold Program.goes Program.unfollowed
 rw[zFN]
 kernel_rfl
theorem zQG(P:Program)(n:String)(f:FuncId)(h:P.funcNamed n=some f)(g:P.goes f=false):P.goesAt .entering n=false:=by
 unfold Program.goesAt Program.goesFrom
 rw[h,Option.any_some,g]
 rfl
theorem goes:false=Rows.wholeLearnsUptoRow.goesBy Tryz.pinned.checked.prog:=
 (zQG Tryz.prog _ _ fid zT9).symm
theorem wfText:Rows.wholeLearnsUptoRow.wfByText (Rows.OpenSpec.upto Rows.wholeLearnsSpec)=true:=by kernel_rfl
theorem mainIs:Tryz.pinned.checked.prog.mainIs=some (Rows.wholeLearnsUptoCard.stood.harness.1,Rows.wholeLearnsUptoCard.stood.harness.2.toList):=by kernel_rfl
theorem noLooks:true=Tryz.pinned.checked.prog.looks []:=by kernel_rfl
end cardB
namespace ownB
theorem inst:Tryz.f4.isInstance Tryz.prog Rows.wholeLearnsUptoRow.origin Rows.wholeLearnsUptoRow.targs:=of_decide_eq_true (by kernel_rfl)
theorem wrap:Tryz.f4.isWrapper Tryz.prog Rows.wholeLearnsUptoRow.wrapper Rows.wholeLearnsUptoRow.mainSum:=by
 unfold Func.isWrapper;first|(rw[if_pos (by decide+kernel)];kernel_rfl)|(rw[if_neg (by decide+kernel)];exact⟨rfl,rfl⟩)
end ownB
end Go.Proofs.YthpoddkmhfhboaaGreatDoor
